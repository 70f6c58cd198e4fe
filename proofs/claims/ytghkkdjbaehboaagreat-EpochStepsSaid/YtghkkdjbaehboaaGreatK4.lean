/- Walks of functions and plain laws, laid together. Own work. -/
import Derived.Below
import Derived.Deep.Draws
import Derived.ChangeKeysEq
import Derived.ProofKit
import Derived.Deep.Slices
import Derived.OpenShut
import Derived.Test.YtghkkdjbaehboaaGreatK3
namespace Go.Proofs.YtghkkdjbaehboaaGreat
open Go.RowKit Tryz
set_option linter.unusedVariables false
set_option linter.unusedSimpArgs false
set_option maxRecDepth 100000
set_option maxHeartbeats 4000000
theorem subT {L:List Item} {A B:VP} (h:SubL L A B:=by (repeat' (first|exact SubL.rfl' | exact SubL.nil|exact SubL.top|exact SubL.fresh|exact trivial|refine SubL.agg ?_|refine SubL.tup ?_|exact SubL.fact (by repeat (first|exact List.Mem.head _|apply List.Mem.tail))|refine SubL.row rf rf ?_|refine SubL.lit rfl ?_|refine SubL.iteT (by first|assumption|(simp;done)|(simp;omega)|(simp_all;done)) ?_|exact SubL.eq (congrArg Is (qda (by first|decide|omega)))|exact SubL.eq (congrArg Is (qdk (by first|decide|omega)))|refine ⟨?_,?_⟩))):SubL L A B:=h
theorem qex {L:List Item} {A B:List VP} (h:SubLs L A B:=by (repeat' (first|exact SubL.rfl' | exact SubL.nil|exact SubL.top|exact SubL.fresh|exact trivial|refine SubL.agg ?_|refine SubL.tup ?_|exact SubL.fact (by repeat (first|exact List.Mem.head _|apply List.Mem.tail))|refine SubL.row rf rf ?_|refine SubL.lit rfl ?_|refine SubL.iteT (by first|assumption|(simp;done)|(simp;omega)|(simp_all;done)) ?_|exact SubL.eq (congrArg Is (qda (by first|decide|omega)))|exact SubL.eq (congrArg Is (qdk (by first|decide|omega)))|refine ⟨?_,?_⟩))):SubLs L A B:=h
theorem subzT {L:List Item} {A B:List VP} (h:SubLs L A B:=by (repeat' (first|exact SubL.rfl' | exact trivial|exact SubL.eq (congrArg Is (qda (by first|decide|omega)))|exact SubL.eq (congrArg Is (qdk (by first|decide|omega)))|refine ⟨?_,?_⟩))):SubLs L A B:=h
theorem evS {A:Nat→Option VP} {L:List Item} {x:Operand} {B:VP} (h:Ev A L x B:=by (first|exact er rfl|exact Ev.sub rfl (by (repeat' (first|exact SubL.rfl' | exact SubL.nil|exact SubL.top|exact SubL.fresh|exact trivial|refine SubL.agg ?_|refine SubL.tup ?_|exact SubL.fact (by repeat (first|exact List.Mem.head _|apply List.Mem.tail))|refine SubL.row rf rf ?_|refine SubL.lit rfl ?_|refine SubL.iteT (by first|assumption|(simp;done)|(simp;omega)|(simp_all;done)) ?_|exact SubL.eq (congrArg Is (qda (by first|decide|omega)))|exact SubL.eq (congrArg Is (qdk (by first|decide|omega)))|refine ⟨?_,?_⟩))))):Ev A L x B:=h
theorem evG {A:Nat→Option VP} {L:List Item} {x:Operand} {B:VP} (h:Ev A L x B:=by (first|exact er rfl|exact Ev.sub rfl (SubL.iteT (by first|assumption|(simp;done)|(simp;omega)|(simp_all;done)) SubL.rfl'))):Ev A L x B:=h
theorem qgp {A:Nat→Option VP} {L:List Item} {x:Operand} {B:VP} (h:Ev A L x B:=by (first|exact er rfl|exact Ev.sub rfl (SubL.eq (congrArg Is (qda (by first|decide|omega)))))):Ev A L x B:=h
theorem qmq {A:Nat→Option VP} {L:List Item} {x:Operand} {B:VP} (h:Ev A L x B:=by (first|exact er rfl|exact Ev.sub rfl (SubL.eq (congrArg Is (qdk (by first|decide|omega)))))):Ev A L x B:=h
theorem qi4 {A:Nat→Option VP} {L:List Item} {x:Operand} {B:VP} (h:Ev A L x B:=by (first|exact er rfl|exact Ev.sub rfl (SubL.iteT (by first|assumption|(simp;done)|(simp;omega)|(simp_all;done)) SubL.rfl')|exact Ev.sub rfl (SubL.eq (congrArg Is (qda (by first|decide|omega))))|exact Ev.sub rfl (SubL.iteT (by first|assumption|(simp;done)|(simp;omega)|(simp_all;done)) (SubL.eq (congrArg Is (qda (by first|decide|omega))))))):Ev A L x B:=h
theorem qi5 {A:Nat→Option VP} {L:List Item} {x:Operand} {B:VP} (h:Ev A L x B:=by (first|exact er rfl|exact Ev.sub rfl (SubL.iteT (by first|assumption|(simp;done)|(simp;omega)|(simp_all;done)) SubL.rfl')|exact Ev.sub rfl (SubL.eq (congrArg Is (qdk (by first|decide|omega))))|exact Ev.sub rfl (SubL.iteT (by first|assumption|(simp;done)|(simp;omega)|(simp_all;done)) (SubL.eq (congrArg Is (qdk (by first|decide|omega))))))):Ev A L x B:=h
theorem qbw {a:Item} {l:List Item} (h:a∈l:=by (repeat (first|exact List.Mem.head _|apply List.Mem.tail))):a∈l:=h
theorem qae {L L':List Item} {a b:Item} (h:Repl L a b L':=by (repeat (first|exact Repl.head _ _ _|apply Repl.tail))):Repl L a b L':=h
theorem qa6 {A:VP} {As:List VP} (h:qd1 A As:=by (first|exact qon|exact qr1 rfl|exact qr0|exact qol|exact qom rfl)):qd1 A As:=h
theorem qil {k:IntKind} {n r:Int} (h:k.wrap n=r:=by (first|exact qpi (by omega)|exact wU64 (by omega)|exact wU32 (by omega)|rfl)):k.wrap n=r:=h
theorem zam {k:IntKind} {n r:Int} (h:k.wrap n=r:=by (first|with_reducible exact zbg _|with_reducible exact zbj _|with_reducible exact to_u8_8 _|with_reducible exact to_u64_8 _|with_reducible exact zbh _|with_reducible exact to_u8_64 _|with_reducible exact zbi _|with_reducible exact to_i64_8 _|with_reducible exact zbl _|exact qpi (by first|omega|assumption)|exact wU64 (by omega)|exact wU32 (by omega)|with_reducible exact zbk _|with_reducible exact qh4 _|with_reducible exact qzo _|with_reducible exact zbf _|rfl)):k.wrap n=r:=h
theorem qgg {L L':List Item} (h:LendL L L':=by (repeat (first|with_reducible exact LendL.nil|with_reducible apply LendL.buf|with_reducible apply LendL.blk|with_reducible apply LendL.keep))):LendL L L':=h
theorem qq2 {R:VP} (h:qmu R:=by (repeat (first|with_reducible exact qdd|exact trivial|with_reducible refine pure_tup ?_|with_reducible refine pure_agg ?_|(with_reducible refine pure_ex (fun _=>?_))|refine ⟨?_,?_⟩))):qmu R:=h
theorem qbt {L:List Item} {E E':Env} (h:ESub L E E':=by ((repeat (refine ⟨⟨_,rfl,(by (repeat' (first|exact SubL.rfl' | exact SubL.nil|exact SubL.top|exact SubL.fresh|exact trivial|refine SubL.agg ?_|refine SubL.tup ?_|exact SubL.fact (by repeat (first|exact List.Mem.head _|apply List.Mem.tail))|refine SubL.row rf rf ?_|refine SubL.lit rfl ?_|refine SubL.iteT (by first|assumption|(simp;done)|(simp;omega)|(simp_all;done)) ?_|exact SubL.eq (congrArg Is (qda (by first|decide|omega)))|exact SubL.eq (congrArg Is (qdk (by first|decide|omega)))|refine ⟨?_,?_⟩)))⟩,?_⟩));exact trivial)):ESub L E E':=h
theorem qab {L M:List Item} (h:SubP M L:=by (repeat (first|exact SubP.nil _|refine SubP.cons (by repeat (first|exact Drop1.here _ _|apply Drop1.next)) ?_))):SubP M L:=h
theorem qb8 {p:Prop} (h:p:=by (first|omega|(simp;done)|(simp;omega))):p:=h
theorem qct {p:Prop} (h:p:=by (first|rfl|assumption|omega)):p:=h
section
variable {P:Program} {c:Ctx} {A:Nat→Option VP} {L:List Item} {d:Option Tmp} {ty:TypeId} {pos:String} {af:Array Edge} {g:Option (Nat×Bool)}
theorem zck {φ:Fz} {As:List VP} {vs:List Value} {t:TypeId} {D:TypeDesc} {o:Nat} {B:VP} {w:World} (h:Alls φ As vs) (hu:P.underlying t=some D) (hD:qr9 D=false) (hB:As[o]?=some B):∃ v,(part t vs.toArray o).run P w = .ok v w∧B.ok φ v:=by
 obtain ⟨v,h3,h4⟩:=qzd h hB
 exact ⟨v,by simp only [part,Sem.run_bind,qfp hu,hD,Result.andThen_ok,h3];rfl,h4⟩
theorem qtd {φ:Fz} {As Rs:List VP} {vs:List Value} {t:TypeId} {D:TypeDesc} {o n:Nat} {w:World} (h:Alls φ As vs) (h1:ones vs) (hu:P.underlying t=some D) (hD:qr9 D=true) (hn:(P.info? t).map (·.size)=some n) (hR:(As.drop o).take n=Rs) :
  ∃ v,(part t vs.toArray o).run P w = .ok v w∧(IsAgg Rs).ok φ v:=by
 refine ⟨.agg ((vs.drop o).take n).toArray,?_,(vs.drop o).take n,rfl,?_,fun u hu=>h1 u (List.mem_of_mem_drop (List.mem_of_mem_take hu))⟩
 ·simp only [part,Sem.run_bind,qfp hu,hD,Result.andThen_ok,if_true,qb5 hn,Sem.run_pure]
  congr 2
  apply Array.ext'
  simp
 ·rw [← hR];exact (h.drop o).take n
theorem qpu {s:TypeId} {x:Operand} {i:Nat} {fs:Array Field} {f:Field} {As:List VP} {B:VP} {D:TypeDesc} (hx:Ev A L x (IsAgg As)) (hu:P.underlying s=some (.struct fs)) (hf:fs[i]?=some f) (hD:P.underlying f.type=some D) (hd:qr9 D=false) (hB:As[f.offset]?=some B) :
  OpP P c ⟨d,.field s x i,ty,pos,af,g⟩ A L B:=
 opp fun φ a w hm he=>by
  obtain ⟨vs,h1,h2,h3⟩:(IsAgg As).ok φ (a.eval x):=he x (by simp [Op.operands]) _ hx
  obtain ⟨v,h4,h5⟩:=zck (w:=w) h2 hD hd hB
  refine ⟨v,?_,h5⟩
  simp only [execOp,h1]
  refine qcl ?_
  simp only [Instr.field,asAgg,Sem.run_bind,Sem.run_pure,run_underlying hu,Result.andThen_ok,hf]
  exact h4
theorem qhc {t e:TypeId} {x y:Operand} {As Rs:List VP} {len sz k:Nat} {j:Int} {q:IntKind} {D:TypeDesc} (hx:Ev A L x (IsAgg As)) (hy:Ev A L y (Is (.int q j))) (hu:P.underlying t=some (.array len e)) (hD:P.underlying e=some D) (hd:qr9 D=true) (hs:(P.info? e).map (·.size)=some sz) (hj:j=k) (hk:k<len) (hR:(As.drop (k*sz)).take sz=Rs) :
  OpP P c ⟨d,.index t x y,ty,pos,af,g⟩ A L (IsAgg Rs):=
 opp fun φ a w hm he=>by
  obtain ⟨vs,h1,h2,h3⟩:(IsAgg As).ok φ (a.eval x):=he x (by simp [Op.operands]) _ hx
  have h6:a.eval y = .int q j:=he y (by simp [Op.operands]) _ hy
  obtain ⟨v,h4,h5⟩:=qtd (w:=w) h2 h3 hD hd hs hR
  refine ⟨v,?_,h5⟩
  have h7:(0:Int)≤j∧j<(len:Int):=by omega
  have h8:j.toNat=k:=by omega
  simp only [execOp,h1,h6]
  refine qcl ?_
  simp only [Instr.index,asIntOf,Sem.run_bind,Sem.run_pure,Result.andThen_ok,run_underlying hu,h7,and_self,if_true,qb5 hs,h8]
  exact h4
end
def SlN (w:World) (v:Value) (s n:Nat) (xs:List Value):Prop:=
 xs.length=n*s∧((∃ a c,v = .slice a 0 c∧n=0) ∨
  ∃ b o c,v = .slice (some ⟨b,o,none⟩) n c∧n≤c∧c≤maxLen∧b<w.heap.size∧∀ i u,xs[i]?=some u→w.cell? ⟨b,o+i,none⟩=some u)
def Sl (w:World) (v:Value) (xs:List Value):Prop:=SlN w v 1 xs.length xs
theorem SlN.below {w w':World} {v:Value} {s n:Nat} {xs:List Value} (h:SlN w v s n xs) {B:Nat} (hb:Below B w w') (hB:w.heap.size≤B):SlN w' v s n xs:=by
 obtain ⟨h1,h2⟩:=h
 refine ⟨h1,?_⟩
 rcases h2 with h2|⟨b,o,c,e1,e2,e3,e4,e5⟩
 ·exact .inl h2
 ·refine .inr ⟨b,o,c,e1,e2,e3,Nat.lt_of_lt_of_le e4 hb.size,fun i u hu=>?_⟩
  rw [hb.cell (p:=⟨b,o+i,none⟩) (by show b<B;omega)]
  exact e5 i u hu
theorem Sl.below {w w':World} {v:Value} {xs:List Value} (h:Sl w v xs) (hb:Below w.heap.size w w'):Sl w' v xs:=SlN.below h hb (Nat.le_refl _)
theorem Sl.cases {w:World} {v:Value} {xs:List Value} (h:Sl w v xs) :
  (∃ a c,v = .slice a 0 c∧xs=[])∨∃ b o c,v = .slice (some ⟨b,o,none⟩) xs.length c∧xs.length≤c∧c≤maxLen∧b<w.heap.size∧∀ i u,xs[i]?=some u→w.cell? ⟨b,o+i,none⟩=some u:=by
 rcases h.2 with ⟨a,c,e1,e2⟩|h2
 ·exact .inl ⟨a,c,e1,List.eq_nil_of_length_eq_zero e2⟩
 ·exact .inr h2
theorem Sl.nil (w:World):Sl w (.slice none 0 0) []:=⟨rfl,.inl ⟨_,_,rfl,rfl⟩⟩
def Blk (w:World) (b:Nat) (t:TypeId) (cs:Array Value):Prop:=w.heap[b]?=some (.cells cs t (0,0))
theorem Blk.lt {w:World} {b:Nat} {t:TypeId} {cs:Array Value} (h:Blk w b t cs):b<w.heap.size:=by
 rcases Nat.lt_or_ge b w.heap.size with hl|hl
 ·exact hl
 ·unfold Blk at h;rw [Array.getElem?_eq_none hl] at h;cases h
theorem Blk.cell {w:World} {b:Nat} {t:TypeId} {cs:Array Value} (h:Blk w b t cs) (i:Nat):w.cell? ⟨b,i,none⟩=cs[i]?:=cell_of_row w b i cs t (0,0) h
theorem Blk.frozen {w:World} {b:Nat} {t:TypeId} {cs:Array Value} (h:Blk w b t cs) (i:Nat):w.frozen? ⟨b,i,none⟩=false:=frozen_of_row w b i cs t h
theorem Blk.below {w w':World} {b:Nat} {t:TypeId} {cs:Array Value} (h:Blk w b t cs) {B:Nat} (hb:Below B w w') (hB:b<B):Blk w' b t cs:=(hb.block b hB).trans h
theorem Blk.new (w:World) (t:TypeId) (cs:Array Value):Blk (w.alloc (.cells cs t)) w.heap.size t cs:=heap_alloc_new w _
theorem qsa (b o k:Nat):(⟨b,o,none⟩:Addr).add k=⟨b,o+k,none⟩:=Addr.add_lit b o k
def cutA (a:Option Addr) (cap lo s:Nat):Option Addr:=if cap=lo then a else a.map (·.add (lo*s))
@[go_sem ↓ high] theorem sliced_cutA (a:Option Addr) (l h m s:Nat):sliced a l h m s = .slice (cutA a m l s) (h-l) (m-l):=rfl
theorem Sl.cut {w:World} {a:Option Addr} {n c:Nat} {xs:List Value} (h:Sl w (.slice a n c) xs) {lo hi:Nat} (h1:lo≤hi) (h2:hi≤n) {A:Option Addr} {c':Nat}
  (hA':A=cutA a c lo 1) (hc:c'=c-lo):Sl w (.slice A (hi-lo) c') ((xs.take hi).drop lo):=by
 have hA:A=if c=lo then a else a.map (·.add lo):=by rw [hA'];unfold cutA;simp
 have hn:xs.length=n:=by
  rcases h.cases with ⟨a',c'',e,rfl⟩|⟨b,o,c'',e,_⟩
  ·injection e with _ e2 _;rw [e2];rfl
  ·injection e with _ e2 _;exact e2.symm
 have hl:((xs.take hi).drop lo).length=hi-lo:=by rw [List.length_drop,List.length_take];omega
 refine ⟨by simp,?_⟩
 rw [hl]
 by_cases h0:hi-lo=0
 ·exact .inl ⟨A,c',by rw [h0],h0⟩
 ·rcases h.cases with ⟨a',c'',e,rfl⟩|⟨b,o,c'',e,e2,e3,e4,e5⟩
  ·simp at hn;omega
  ·injection e with g1 g2 g3
   subst g1 g3
   rw [if_neg (by omega)] at hA
   subst hA
   refine .inr ⟨b,o+lo,c',by rw [Option.map_some,qsa],by omega,by omega,e4,fun i u hu=>?_⟩
   rw [Nat.add_assoc]
   apply e5
   rw [List.getElem?_drop] at hu
   have hlt:lo+i<hi:=by
    rcases Nat.lt_or_ge (lo+i) hi with g|g
    ·exact g
    ·rw [List.getElem?_eq_none (by rw [List.length_take];omega)] at hu;cases hu
   rw [List.getElem?_take_of_lt hlt] at hu
   exact hu
theorem Sl.len {w:World} {a:Option Addr} {n c:Nat} {xs:List Value} (h:Sl w (.slice a n c) xs):xs.length=n:=by
 rcases h.cases with ⟨a',c'',e,rfl⟩|⟨b,o,c'',e,_⟩
 ·injection e with _ e2 _;rw [e2];rfl
 ·injection e with _ e2 _;exact e2.symm
@[go_sem high] theorem min_nat {P:Program} {w:World} (ts:Array TypeId) (t:TypeId) (k k':IntKind) (x y:Nat):(Builtin.min_ ts t #[.int k (x:Int),.int k' (y:Int)]).run P w = .ok (.int k ((min x y:Nat):Int)) w:=by
 rw [run_min_int2]
 congr 2
 split <;> omega
@[go_sem high] theorem max_nat {P:Program} {w:World} (ts:Array TypeId) (t:TypeId) (k k':IntKind) (x y:Nat):(Builtin.max_ ts t #[.int k (x:Int),.int k' (y:Int)]).run P w = .ok (.int k ((max x y:Nat):Int)) w:=by
 rw [run_max_int2]
 congr 2
 split <;> omega
theorem Sl.at_ {w:World} {a:Option Addr} {n c:Nat} {xs:List Value} (h:Sl w (.slice a n c) xs) {k:Nat} (hk:k<n) :
  ∃ b o,a=some ⟨b,o,none⟩∧b<w.heap.size∧∀ u,xs[k]?=some u→w.cell? ⟨b,o+k,none⟩=some u:=by
 rcases h.cases with ⟨a',c'',e,rfl⟩|⟨b,o,c'',e,e2,e3,e4,e5⟩
 ·injection e with _ e2 _;omega
 ·injection e with g1 g2 g3
  exact ⟨b,o,g1,e4,e5 k⟩
theorem Blk.alloc {w:World} {b:Nat} {t:TypeId} {cs:Array Value} (h:Blk w b t cs) (o:Obj):Blk (w.alloc o) b t cs:=(Below.heap_alloc w o b h.lt).trans h
structure Mb where
 n:Int
 b:Int
 f:Bool
 deriving DecidableEq
def Mb.cells (m:Mb):List Value:=[.int .i64 m.n,.int .i64 m.b,.bool m.f]
def Mb.val (m:Mb):Value:=.agg #[.int .i64 m.n,.int .i64 m.b,.bool m.f]
def Mb.at (ms:List Mb) (k:Nat):Mb:=ms.getD k ⟨0,0,false⟩
def SlM (w:World) (v:Value) (ms:List Mb):Prop:=SlN w v 3 ms.length (ms.flatMap Mb.cells)
theorem qz9 (ms:List Mb) (k j:Nat) (hk:k<ms.length) (hj:j<3):(ms.flatMap Mb.cells)[k*3+j]?=((Mb.at ms k).cells)[j]?:=by
 induction ms generalizing k with
 | nil=>simp at hk
 | cons p ms ih =>
  rw [List.flatMap_cons]
  cases k with
  | zero=>rw [List.getElem?_append_left (by simp [Mb.cells];omega)];simp [Mb.at]
  | succ k =>
   rw [List.getElem?_append_right (by simp [Mb.cells];omega)]
   have e:(k+1)*3+j-p.cells.length=k*3+j:=by simp [Mb.cells];omega
   rw [e,ih k (by simpa using hk)]
   simp [Mb.at]
def MbAt (w:World) (b o:Nat) (m:Mb):Prop:=
 w.cell? ⟨b,o,none⟩=some (.int .i64 m.n)∧w.cell? ⟨b,o+1,none⟩=some (.int .i64 m.b)∧w.cell? ⟨b,o+2,none⟩=some (.bool m.f)
theorem SlM.len {w:World} {a:Option Addr} {n c:Nat} {ms:List Mb} (h:SlM w (.slice a n c) ms):ms.length=n:=by
 rcases h.2 with ⟨a',c',e,e2⟩|⟨b,o,c',e,_⟩
 ·injection e with _ e3 _;omega
 ·injection e with _ e3 _;exact e3.symm
theorem SlM.form {w:World} {v:Value} {ms:List Mb} (h:SlM w v ms):∃ a c,v = .slice a ms.length c:=by
 rcases h.2 with ⟨a',c',e,e2⟩|⟨b,o,c',e,_⟩
 ·exact ⟨a',c',by rw [e,e2]⟩
 ·exact ⟨_,c',e⟩
theorem SlM.at_ {w:World} {a:Option Addr} {n c:Nat} {ms:List Mb} (h:SlM w (.slice a n c) ms) {k:Nat} (hk:k<n) :
  ∃ b o,a=some ⟨b,o,none⟩∧b<w.heap.size∧∀ j,j<n→MbAt w b (o+j*3) (Mb.at ms j):=by
 have hl:=h.len
 rcases h.2 with ⟨a',c',e,e2⟩|⟨b,o,c',e,e2,e3,e4,e5⟩
 ·omega
 ·injection e with g1 g2 g3
  refine ⟨b,o,g1,e4,fun i hi=>?_⟩
  have g:∀ j,j<3→∀ u,((Mb.at ms i).cells)[j]?=some u→w.cell? ⟨b,o+i*3+j,none⟩=some u:=fun j hj u hu=>by
   rw [Nat.add_assoc]
   exact e5 _ u ((qz9 ms i j (by omega) hj).trans hu)
  exact ⟨g 0 (by omega) _ rfl,g 1 (by omega) _ rfl,g 2 (by omega) _ rfl⟩
theorem SlM.below {w w':World} {v:Value} {ms:List Mb} (h:SlM w v ms) (hb:Below w.heap.size w w'):SlM w' v ms:=SlN.below h hb (Nat.le_refl _)
theorem SlM.alloc {w:World} {v:Value} {ms:List Mb} (h:SlM w v ms) (o:Obj):SlM (w.alloc o) v ms:=h.below ((Below.refl _ _).alloc (Nat.le_refl _) o)
theorem SlM.nil (w:World):SlM w (.slice none 0 0) []:=⟨rfl,.inl ⟨_,_,rfl,rfl⟩⟩
theorem MbAt.below {w w':World} {b o:Nat} {m:Mb} {B:Nat} (h:MbAt w b o m) (hb:Below B w w') (hB:b<B):MbAt w' b o m:=by
 have k:∀ x,w'.cell? ⟨b,x,none⟩=w.cell? ⟨b,x,none⟩:=fun x=>hb.cell (p:=⟨b,x,none⟩) hB
 unfold MbAt at *
 simp only [k]
 exact h
def tI64:Ty Int:=⟨1,fun n=>[Is (.int .i64 n)],fun _=>rfl⟩
def qu4:Ty (BitVec 64):=⟨1,fun n=>[Is (.int .u64 (UV n))],fun _=>rfl⟩
def pageV (l:Int) (h d0 d1 d2 d3 d4 d5 d6:BitVec 64):Value:=
 .agg #[.int .i64 l,.int .u64 (UV h),.int .u64 (UV d0),.int .u64 (UV d1),.int .u64 (UV d2),.int .u64 (UV d3),.int .u64 (UV d4),.int .u64 (UV d5),.int .u64 (UV d6)]
theorem u64_one:∃ i,Tryz.prog.info? 24=some i:=by
 have h:(Tryz.prog.info? 24).isSome=true:=by kernel_rfl
 exact Option.isSome_iff_exists.1 h
@[go_sem high] theorem eq7 (d:Nat) (w:World) (a0 a1 a2 a3 a4 a5 a6 b0 b1 b2 b3 b4 b5 b6:BitVec 64) :
  (Op.equalIn (d+2) 46 (.agg #[.int .u64 (UV a0),.int .u64 (UV a1),.int .u64 (UV a2),.int .u64 (UV a3),.int .u64 (UV a4),.int .u64 (UV a5),.int .u64 (UV a6)])
   (.agg #[.int .u64 (UV b0),.int .u64 (UV b1),.int .u64 (UV b2),.int .u64 (UV b3),.int .u64 (UV b4),.int .u64 (UV b5),.int .u64 (UV b6)])).run Tryz.prog w =
  .ok (a0==b0&&(a1==b1&&(a2==b2&&(a3==b3&&(a4==b4&&(a5==b5&&a6==b6)))))) w:=by
 obtain ⟨i,hi⟩:=u64_one
 rw [show d+2=(d+1)+1 from rfl,run_equalIn_array w (d+1) _ _ Tryz.underlying46 hi]
 have hc:Tryz.prog.cellsOf 24=1:=by kernel_rfl
 rw [hc]
 have hp:∀ (cs:Array Value) (k:Nat) (h:k<cs.size) (w:World),(part 24 cs k).run Tryz.prog w = .ok cs[k] w:=by
  intro cs k h w
  simp [part,isAgg,run_underlying Tryz.underlying24,h]
 have he:∀ (a b:BitVec 64) (w:World),(Op.equalIn (d+1) 24 (.int .u64 (UV a)) (.int .u64 (UV b))).run Tryz.prog w = .ok (a==b) w:=by
  intro a b w
  rw [run_equalIn_int w d _ .u64 .u64 _ _ Tryz.underlying24,UV_beq]
 simp only [List.range_succ,List.range_zero,List.nil_append,List.cons_append,Op.eqItems,Sem.run_bind,Nat.mul_one]
 simp [hp,he]
 by_cases h0:a0=b0
 case neg=>simp [h0]
 by_cases h1:a1=b1
 case neg=>simp [h0,h1]
 by_cases h2:a2=b2
 case neg=>simp [h0,h1,h2]
 by_cases h3:a3=b3
 case neg=>simp [h0,h1,h2,h3]
 by_cases h4:a4=b4
 case neg=>simp [h0,h1,h2,h3,h4]
 by_cases h5:a5=b5
 case neg=>simp [h0,h1,h2,h3,h4,h5]
 by_cases h6:a6=b6
 case neg=>simp [h0,h1,h2,h3,h4,h5,h6]
 simp [h0,h1,h2,h3,h4,h5,h6]
structure Pg where
 l:Int
 h:BitVec 64
 d0:BitVec 64
 d1:BitVec 64
 d2:BitVec 64
 d3:BitVec 64
 d4:BitVec 64
 d5:BitVec 64
 d6:BitVec 64
 deriving DecidableEq
def Pg.cells (p:Pg):List Value:=[.int .i64 p.l,.int .u64 (UV p.h),.int .u64 (UV p.d0),.int .u64 (UV p.d1),.int .u64 (UV p.d2),.int .u64 (UV p.d3),.int .u64 (UV p.d4),.int .u64 (UV p.d5),.int .u64 (UV p.d6)]
def Pg.val (p:Pg):Value:=pageV p.l p.h p.d0 p.d1 p.d2 p.d3 p.d4 p.d5 p.d6
def SlP (w:World) (v:Value) (ps:List Pg):Prop:=SlN w v 9 ps.length (ps.flatMap Pg.cells)
theorem zej (ps:List Pg) (k j:Nat) (hk:k<ps.length) (hj:j<9):(ps.flatMap Pg.cells)[k*9+j]?=(ps[k].cells)[j]?:=by
 induction ps generalizing k with
 | nil=>simp at hk
 | cons p ps ih =>
  rw [List.flatMap_cons]
  cases k with
  | zero=>rw [List.getElem?_append_left (by simp [Pg.cells];omega)];simp
  | succ k =>
   rw [List.getElem?_append_right (by simp [Pg.cells];omega)]
   have e:(k+1)*9+j-p.cells.length=k*9+j:=by simp [Pg.cells];omega
   rw [e,ih k (by simpa using hk)]
   rfl
def PgAt (w:World) (b o:Nat) (p:Pg):Prop:=
 w.cell? ⟨b,o,none⟩=some (.int .i64 p.l)∧w.cell? ⟨b,o+1,none⟩=some (.int .u64 (UV p.h))∧w.cell? ⟨b,o+2,none⟩=some (.int .u64 (UV p.d0))∧w.cell? ⟨b,o+3,none⟩=some (.int .u64 (UV p.d1)) ∧
 w.cell? ⟨b,o+4,none⟩=some (.int .u64 (UV p.d2))∧w.cell? ⟨b,o+5,none⟩=some (.int .u64 (UV p.d3))∧w.cell? ⟨b,o+6,none⟩=some (.int .u64 (UV p.d4))∧w.cell? ⟨b,o+7,none⟩=some (.int .u64 (UV p.d5))∧w.cell? ⟨b,o+8,none⟩=some (.int .u64 (UV p.d6))
theorem SlP.len {w:World} {a:Option Addr} {n c:Nat} {ps:List Pg} (h:SlP w (.slice a n c) ps):ps.length=n:=by
 rcases h.2 with ⟨a',c',e,e2⟩|⟨b,o,c',e,_⟩
 ·injection e with _ e3 _;omega
 ·injection e with _ e3 _;exact e3.symm
theorem SlP.form {w:World} {v:Value} {ps:List Pg} (h:SlP w v ps):∃ a c,v = .slice a ps.length c:=by
 rcases h.2 with ⟨a',c',e,e2⟩|⟨b,o,c',e,_⟩
 ·exact ⟨a',c',by rw [e,e2]⟩
 ·exact ⟨_,c',e⟩
theorem SlP.at_ {w:World} {a:Option Addr} {n c:Nat} {ps:List Pg} (h:SlP w (.slice a n c) ps) {k:Nat} (hk:k<ps.length) :
  ∃ b o,a=some ⟨b,o,none⟩∧b<w.heap.size∧PgAt w b (o+k*9) ps[k]:=by
 have hl:=h.len
 rcases h.2 with ⟨a',c',e,e2⟩|⟨b,o,c',e,e2,e3,e4,e5⟩
 ·omega
 ·injection e with g1 g2 g3
  refine ⟨b,o,g1,e4,?_⟩
  have g:∀ j,j<9→∀ u,(ps[k].cells)[j]?=some u→w.cell? ⟨b,o+k*9+j,none⟩=some u:=fun j hj u hu=>by
   rw [Nat.add_assoc]
   exact e5 _ u ((zej ps k j hk hj).trans hu)
  exact ⟨g 0 (by omega) _ rfl,g 1 (by omega) _ rfl,g 2 (by omega) _ rfl,g 3 (by omega) _ rfl,g 4 (by omega) _ rfl,g 5 (by omega) _ rfl,g 6 (by omega) _ rfl,g 7 (by omega) _ rfl,g 8 (by omega) _ rfl⟩
theorem SlP.below {w w':World} {v:Value} {ps:List Pg} (h:SlP w v ps) (hb:Below w.heap.size w w'):SlP w' v ps:=SlN.below h hb (Nat.le_refl _)
theorem PgAt.below {w w':World} {b o:Nat} {p:Pg} {B:Nat} (h:PgAt w b o p) (hb:Below B w w') (hB:b<B):PgAt w' b o p:=by
 have k:∀ x,w'.cell? ⟨b,x,none⟩=w.cell? ⟨b,x,none⟩:=fun x=>hb.cell (p:=⟨b,x,none⟩) hB
 unfold PgAt at *
 simp only [k]
 exact h
theorem SlP.alloc {w:World} {v:Value} {ps:List Pg} (h:SlP w v ps) (o:Obj):SlP (w.alloc o) v ps:=h.below ((Below.refl _ _).alloc (Nat.le_refl _) o)
def tPg:Ty Pg:=⟨9,fun p=>[Is (.int .i64 p.l),Is (.int .u64 (UV p.h)),Is (.int .u64 (UV p.d0)),Is (.int .u64 (UV p.d1)),Is (.int .u64 (UV p.d2)),Is (.int .u64 (UV p.d3)),Is (.int .u64 (UV p.d4)),Is (.int .u64 (UV p.d5)),Is (.int .u64 (UV p.d6))],fun _=>rfl⟩
@[reducible] def qcr (p:Pg):VP:=IsAgg (tPg.cells p)
theorem qm7 (w:Nat) (k:Nat) (x:BitVec w) (m:BitVec w) (hm:m.toNat=2 ^ k-1):UV (x&&&m)=UV x % 2 ^ k:=by
 unfold UV
 rw [BitVec.toNat_and,hm,Nat.and_two_pow_sub_one_eq_mod]
 push_cast;rfl
theorem qzf (w:Nat) (x:BitVec w) (n:Nat):UV (x>>>n)=UV x / 2 ^ n:=by
 unfold UV
 rw [BitVec.toNat_ushiftRight,Nat.shiftRight_eq_div_pow]
 push_cast;rfl
structure Pt where
 line:Int
 gen:Int
 deriving DecidableEq
def tPt:Ty Pt:=⟨2,fun p=>[Is (.int .i64 p.line),Is (.int .i64 p.gen)],fun _=>rfl⟩
@[reducible] def qks (p:Pt):VP:=IsAgg (tPt.cells p)
def Pt.nil:Pt:=⟨0,0⟩
def qmk (l:Int):Bool:=decide (l≥104)&&decide (l<256)
def qc5 (p:Pt):Bool:=qmk p.line&&decide (p.gen≥1)&&decide (p.gen≤16777215)
def qd3 (w:BitVec 32):Pt:=⟨UV w % 256,UV w / 256⟩
def qhu (p:Pt):BitVec 32:=if qc5 p then BitVec.ofInt 32 (p.line+256*p.gen) else 0#32
theorem validP_iff {p:Pt}:qc5 p=true↔104≤p.line∧p.line<256∧1≤p.gen∧p.gen≤16777215:=by
 unfold qc5 qmk
 simp only [Bool.and_eq_true,decide_eq_true_eq]
 omega
theorem qki {n:Int} (h:0≤n∧n<4294967296):UV (BitVec.ofInt 32 n)=n:=by
 unfold UV
 rw [BitVec.toNat_ofInt];omega
theorem qvd {p:Pt} (h:qc5 p=true):qd3 (qhu p)=p:=by
 have h1:=validP_iff.1 h
 unfold qd3 qhu
 rw [if_pos h,qki (by omega)]
 obtain ⟨l,g⟩:=p
 dsimp only at h1 ⊢
 congr 1 <;> omega
theorem pack_ne {p:Pt} (h:qc5 p=true):qhu p≠0#32:=fun e=>by
 have h1:=validP_iff.1 h
 have h2:UV (qhu p)=p.line+256*p.gen:=by unfold qhu;rw [if_pos h,qki (by omega)]
 rw [e] at h2
 simp [UV] at h2
 omega
theorem pack_or {p:Pt} (h:qc5 p=true):BitVec.ofInt 32 p.gen<<<8|||BitVec.ofInt 32 p.line=qhu p:=by
 have h1:=validP_iff.1 h
 have hg:(BitVec.ofInt 32 p.gen).toNat=p.gen.toNat:=by rw [BitVec.toNat_ofInt];omega
 have hl:(BitVec.ofInt 32 p.line).toNat=p.line.toNat:=by rw [BitVec.toNat_ofInt];omega
 unfold qhu
 rw [if_pos h]
 apply BitVec.eq_of_toNat_eq
 rw [BitVec.toNat_or,BitVec.toNat_shiftLeft,hg,hl,BitVec.toNat_ofInt]
 have e:p.gen.toNat<<<8 % 2 ^ 32=2 ^ 8*p.gen.toNat:=by rw [Nat.shiftLeft_eq];omega
 rw [e,← Nat.two_pow_add_eq_or_of_lt (by omega:p.line.toNat<2 ^ 8)]
 omega
theorem pack_add {p:Pt} (h:qc5 p=true):BitVec.ofInt 32 p.line+256#32*BitVec.ofInt 32 p.gen=qhu p:=by
 have h1:=validP_iff.1 h
 unfold qhu
 rw [if_pos h]
 apply BitVec.eq_of_toNat_eq
 simp only [BitVec.toNat_add,BitVec.toNat_mul,BitVec.toNat_ofInt,BitVec.toNat_ofNat]
 omega
theorem zcl {p:Pt} (h:qc5 p=false):qhu p=0#32:=by unfold qhu;rw [h];rfl
theorem qve (x:BitVec 32):qd3 x=⟨UV (x&&&BitVec.ofInt 32 255),UV (x>>>8)⟩:=by
 have h1:=qm7 32 8 x (BitVec.ofInt 32 255) rfl
 have h2:=qzf 32 x 8
 rw [h1,h2];rfl
theorem qzn (x:BitVec 32):qd3 x=⟨IntKind.i64.wrap ((UV x).tmod 256),IntKind.i64.wrap (IntKind.u32.wrap ((UV x).tdiv 256))⟩:=by
 have h1:=qbq x
 have h2:=UV_lt x
 rw [Int.tmod_eq_emod_of_nonneg h1,Int.tdiv_eq_ediv_of_nonneg h1,wU32 (n:=UV x / 256) (by omega),qpi (n:=UV x % 256) (by omega),qpi (n:=UV x / 256) (by omega)]
 rfl
def Pt.cells (p:Pt):List Value:=[.int .i64 p.line,.int .i64 p.gen]
section
theorem eqPt_run (p q:Pt) (w:World):(Op.equal 51 (.agg p.cells.toArray) (.agg q.cells.toArray)).run Tryz.prog w = .ok (decide (p=q)) w:=by
 have h:(Op.equalIn (9999+1) 51 (.agg #[.int .i64 p.line,.int .i64 p.gen]) (.agg #[.int .i64 q.line,.int .i64 q.gen])).run Tryz.prog w = .ok (decide (p=q)) w:=by
  go_simp
  obtain ⟨a,b⟩:=p
  obtain ⟨a',b'⟩:=q
  by_cases h1:a=a' <;> by_cases h2:b=b' <;> simp [h1,h2]
 exact h
theorem zah (o:BinOp) (x y:Operand) (p q:Pt) (w:World):(eqGuard o 51 x y (.agg p.cells.toArray) (.agg q.cells.toArray)).run Tryz.prog w = .ok () w:=by
 have h:Tryz.prog.eqGuardType Tryz.prog.depth 51=false:=by kernel_rfl
 cases o <;> simp [eqGuard,program,Sem.run,h]
theorem eqPt_eql (p q:Pt) (w:World):(binOp .eql 51 (.agg p.cells.toArray) (.agg q.cells.toArray)).run Tryz.prog w = .ok (.bool (decide (p=q))) w:=by
 simp only [binOp,Sem.run_bind,eqPt_run,Result.andThen_ok,Sem.run_pure]
theorem qub (p q:Pt) (w:World):(Op.equal 55 (.agg p.cells.toArray) (.agg q.cells.toArray)).run Tryz.prog w = .ok (decide (p=q)) w:=by
 have h:(Op.equalIn (9999+1) 55 (.agg #[.int .i64 p.line,.int .i64 p.gen]) (.agg #[.int .i64 q.line,.int .i64 q.gen])).run Tryz.prog w = .ok (decide (p=q)) w:=by
  go_simp
  obtain ⟨a,b⟩:=p
  obtain ⟨a',b'⟩:=q
  by_cases h1:a=a' <;> by_cases h2:b=b' <;> simp [h1,h2]
 exact h
theorem qk1 (o:BinOp) (x y:Operand) (p q:Pt) (w:World):(eqGuard o 55 x y (.agg p.cells.toArray) (.agg q.cells.toArray)).run Tryz.prog w = .ok () w:=by
 have h:Tryz.prog.eqGuardType Tryz.prog.depth 55=false:=by kernel_rfl
 cases o <;> simp [eqGuard,program,Sem.run,h]
theorem quc (p q:Pt) (w:World):(binOp .eql 55 (.agg p.cells.toArray) (.agg q.cells.toArray)).run Tryz.prog w = .ok (.bool (decide (p=q))) w:=by
 simp only [binOp,Sem.run_bind,qub,Result.andThen_ok,Sem.run_pure]
theorem zea (p q:Pt) (w:World):(binOp .neq 55 (.agg p.cells.toArray) (.agg q.cells.toArray)).run Tryz.prog w = .ok (.bool (!decide (p=q))) w:=by
 simp only [binOp,Sem.run_bind,qub,Result.andThen_ok,Sem.run_pure]
end
structure Hd where
 owner:Int
 used:BitVec 32
 deriving DecidableEq
structure Re where
 to:Pt
 ep:BitVec 32
 deriving DecidableEq
structure Nd where
 pin:Bool
 ep:BitVec 32
 sg:BitVec 32
 inc:Int
 r0:Re
 r1:Re
 r2:Re
 r3:Re
 deriving DecidableEq
def Hd.nil:Hd:=⟨0,0#32⟩
def Re.nil:Re:=⟨Pt.nil,0#32⟩
def Nd.nil:Nd:=⟨false,0#32,0#32,0,Re.nil,Re.nil,Re.nil,Re.nil⟩
def tHd:Ty Hd:=⟨2,fun x=>[Is (.int .i64 x.owner),Is (.int .u32 (UV x.used))],fun _=>rfl⟩
@[reducible] def qpg (x:Hd):VP:=IsAgg (tHd.cells x)
def Hd.cells (x:Hd):List Value:=[.int .i64 x.owner,.int .u32 (UV x.used)]
def tRe:Ty Re:=⟨3,fun x=>[Is (.int .i64 x.to.line),Is (.int .i64 x.to.gen),Is (.int .u32 (UV x.ep))],fun _=>rfl⟩
@[reducible] def IsRe (x:Re):VP:=IsAgg (tRe.cells x)
def Re.cells (x:Re):List Value:=[.int .i64 x.to.line,.int .i64 x.to.gen,.int .u32 (UV x.ep)]
def tNd:Ty Nd:=⟨16,fun x=>[Is (.bool x.pin),Is (.int .u32 (UV x.ep)),Is (.int .u32 (UV x.sg)),Is (.int .i64 x.inc),Is (.int .i64 x.r0.to.line),Is (.int .i64 x.r0.to.gen),Is (.int .u32 (UV x.r0.ep)),Is (.int .i64 x.r1.to.line),Is (.int .i64 x.r1.to.gen),Is (.int .u32 (UV x.r1.ep)),Is (.int .i64 x.r2.to.line),Is (.int .i64 x.r2.to.gen),Is (.int .u32 (UV x.r2.ep)),Is (.int .i64 x.r3.to.line),Is (.int .i64 x.r3.to.gen),Is (.int .u32 (UV x.r3.ep))],fun _=>rfl⟩
@[reducible] def qik (x:Nd):VP:=IsAgg (tNd.cells x)
def Nd.cells (x:Nd):List Value:=[.bool x.pin,.int .u32 (UV x.ep),.int .u32 (UV x.sg),.int .i64 x.inc,.int .i64 x.r0.to.line,.int .i64 x.r0.to.gen,.int .u32 (UV x.r0.ep),.int .i64 x.r1.to.line,.int .i64 x.r1.to.gen,.int .u32 (UV x.r1.ep),.int .i64 x.r2.to.line,.int .i64 x.r2.to.gen,.int .u32 (UV x.r2.ep),.int .i64 x.r3.to.line,.int .i64 x.r3.to.gen,.int .u32 (UV x.r3.ep)]
theorem qoi (d:Nat) (w:World) (p q:Re):(Op.equalIn (d+3) 91 (.agg #[.int .i64 p.to.line,.int .i64 p.to.gen,.int .u32 (UV p.ep)]) (.agg #[.int .i64 q.to.line,.int .i64 q.to.gen,.int .u32 (UV q.ep)])).run Tryz.prog w = .ok (decide (p=q)) w:=by
 go_simp
 obtain ⟨⟨a,b⟩,c⟩:=p
 obtain ⟨⟨a',b'⟩,c'⟩:=q
 by_cases h1:a=a' <;> by_cases h2:b=b' <;> by_cases h3:c=c' <;> simp [h1,h2,h3]
theorem qy1 (p q:Re) (w:World):(Op.equal 91 (.agg p.cells.toArray) (.agg q.cells.toArray)).run Tryz.prog w = .ok (decide (p=q)) w:=qoi 9997 w p q
theorem eqRe_one:∃ i,Tryz.prog.info? 91=some i:=by
 have h:(Tryz.prog.info? 91).isSome=true:=by kernel_rfl
 exact Option.isSome_iff_exists.1 h
theorem qif (cs:Array Value) (k:Nat) (w:World):(part 91 cs k).run Tryz.prog w = .ok (.agg (cs.extract k (k+3))) w:=by
 have hn:(Tryz.prog.info? 91).map (·.size)=some 3:=by kernel_rfl
 have hu:(isAgg 91).run Tryz.prog w = .ok true w:=qfp Tryz.underlying91 w
 simp only [part,Sem.run_bind,hu,Result.andThen_ok,if_true,qb5 hn,Sem.run_pure]
@[go_sem high] theorem eqRe_4 (d:Nat) (w:World) (a0 a1 a2 a3 b0 b1 b2 b3:Re) :
  (Op.equalIn (d+4) 92 (.agg #[.int .i64 a0.to.line,.int .i64 a0.to.gen,.int .u32 (UV a0.ep),.int .i64 a1.to.line,.int .i64 a1.to.gen,.int .u32 (UV a1.ep),.int .i64 a2.to.line,.int .i64 a2.to.gen,.int .u32 (UV a2.ep),.int .i64 a3.to.line,.int .i64 a3.to.gen,.int .u32 (UV a3.ep)]) (.agg #[.int .i64 b0.to.line,.int .i64 b0.to.gen,.int .u32 (UV b0.ep),.int .i64 b1.to.line,.int .i64 b1.to.gen,.int .u32 (UV b1.ep),.int .i64 b2.to.line,.int .i64 b2.to.gen,.int .u32 (UV b2.ep),.int .i64 b3.to.line,.int .i64 b3.to.gen,.int .u32 (UV b3.ep)])).run Tryz.prog w = .ok ((decide (a0=b0)&&(decide (a1=b1)&&(decide (a2=b2)&&decide (a3=b3))))) w:=by
 obtain ⟨i,hi⟩:=eqRe_one
 rw [show d+4=(d+3)+1 from rfl,run_equalIn_array w (d+3) _ _ Tryz.underlying92 hi]
 have hc:Tryz.prog.cellsOf 91=3:=by kernel_rfl
 rw [hc]
 simp only [List.range_succ,List.range_zero,List.nil_append,List.cons_append,Op.eqItems,Sem.run_bind,qif,Result.andThen_ok]
 have e0:=qoi d w a0 b0
 have e1:=qoi d w a1 b1
 have e2:=qoi d w a2 b2
 have e3:=qoi d w a3 b3
 simp [qif,e0,e1,e2,e3]
 by_cases h0:a0=b0
 case neg=>simp [qif,e0,e1,e2,e3,h0]
 by_cases h1:a1=b1
 case neg=>simp [qif,e0,e1,e2,e3,h0,h1]
 by_cases h2:a2=b2
 case neg=>simp [qif,e0,e1,e2,e3,h0,h1,h2]
 by_cases h3:a3=b3 <;> simp [qif,e0,e1,e2,e3,h0,h1,h2,h3]
theorem qf3 (o:BinOp) (x y:Operand) (p q:Re) (w:World):(eqGuard o 91 x y (.agg p.cells.toArray) (.agg q.cells.toArray)).run Tryz.prog w = .ok () w:=by
 have h:Tryz.prog.eqGuardType Tryz.prog.depth 91=false:=by kernel_rfl
 cases o <;> simp [eqGuard,program,Sem.run,h]
theorem qkg (p q:Re) (w:World):(binOp .eql 91 (.agg p.cells.toArray) (.agg q.cells.toArray)).run Tryz.prog w = .ok (.bool (decide (p=q))) w:=by
 simp only [binOp,Sem.run_bind,qy1,Result.andThen_ok,Sem.run_pure]
theorem eqRe_neq (p q:Re) (w:World):(binOp .neq 91 (.agg p.cells.toArray) (.agg q.cells.toArray)).run Tryz.prog w = .ok (.bool (!decide (p=q))) w:=by
 simp only [binOp,Sem.run_bind,qy1,Result.andThen_ok,Sem.run_pure]
theorem qlv (d:Nat) (w:World) (p q:Re):(Op.equalIn (d+3) 107 (.agg #[.int .i64 p.to.line,.int .i64 p.to.gen,.int .u32 (UV p.ep)]) (.agg #[.int .i64 q.to.line,.int .i64 q.to.gen,.int .u32 (UV q.ep)])).run Tryz.prog w = .ok (decide (p=q)) w:=by
 go_simp
 obtain ⟨⟨a,b⟩,c⟩:=p
 obtain ⟨⟨a',b'⟩,c'⟩:=q
 by_cases h1:a=a' <;> by_cases h2:b=b' <;> by_cases h3:c=c' <;> simp [h1,h2,h3]
theorem qua (p q:Re) (w:World):(Op.equal 107 (.agg p.cells.toArray) (.agg q.cells.toArray)).run Tryz.prog w = .ok (decide (p=q)) w:=qlv 9997 w p q
theorem zd8:∃ i,Tryz.prog.info? 107=some i:=by
 have h:(Tryz.prog.info? 107).isSome=true:=by kernel_rfl
 exact Option.isSome_iff_exists.1 h
theorem qg4 (cs:Array Value) (k:Nat) (w:World):(part 107 cs k).run Tryz.prog w = .ok (.agg (cs.extract k (k+3))) w:=by
 have hn:(Tryz.prog.info? 107).map (·.size)=some 3:=by kernel_rfl
 have hu:(isAgg 107).run Tryz.prog w = .ok true w:=qfp Tryz.underlying107 w
 simp only [part,Sem.run_bind,hu,Result.andThen_ok,if_true,qb5 hn,Sem.run_pure]
@[go_sem high] theorem eqReR_4 (d:Nat) (w:World) (a0 a1 a2 a3 b0 b1 b2 b3:Re) :
  (Op.equalIn (d+4) 108 (.agg #[.int .i64 a0.to.line,.int .i64 a0.to.gen,.int .u32 (UV a0.ep),.int .i64 a1.to.line,.int .i64 a1.to.gen,.int .u32 (UV a1.ep),.int .i64 a2.to.line,.int .i64 a2.to.gen,.int .u32 (UV a2.ep),.int .i64 a3.to.line,.int .i64 a3.to.gen,.int .u32 (UV a3.ep)]) (.agg #[.int .i64 b0.to.line,.int .i64 b0.to.gen,.int .u32 (UV b0.ep),.int .i64 b1.to.line,.int .i64 b1.to.gen,.int .u32 (UV b1.ep),.int .i64 b2.to.line,.int .i64 b2.to.gen,.int .u32 (UV b2.ep),.int .i64 b3.to.line,.int .i64 b3.to.gen,.int .u32 (UV b3.ep)])).run Tryz.prog w = .ok ((decide (a0=b0)&&(decide (a1=b1)&&(decide (a2=b2)&&decide (a3=b3))))) w:=by
 obtain ⟨i,hi⟩:=zd8
 rw [show d+4=(d+3)+1 from rfl,run_equalIn_array w (d+3) _ _ Tryz.underlying108 hi]
 have hc:Tryz.prog.cellsOf 107=3:=by kernel_rfl
 rw [hc]
 simp only [List.range_succ,List.range_zero,List.nil_append,List.cons_append,Op.eqItems,Sem.run_bind,qg4,Result.andThen_ok]
 have e0:=qlv d w a0 b0
 have e1:=qlv d w a1 b1
 have e2:=qlv d w a2 b2
 have e3:=qlv d w a3 b3
 simp [qg4,e0,e1,e2,e3]
 by_cases h0:a0=b0
 case neg=>simp [qg4,e0,e1,e2,e3,h0]
 by_cases h1:a1=b1
 case neg=>simp [qg4,e0,e1,e2,e3,h0,h1]
 by_cases h2:a2=b2
 case neg=>simp [qg4,e0,e1,e2,e3,h0,h1,h2]
 by_cases h3:a3=b3 <;> simp [qg4,e0,e1,e2,e3,h0,h1,h2,h3]
theorem qf4 (o:BinOp) (x y:Operand) (p q:Re) (w:World):(eqGuard o 107 x y (.agg p.cells.toArray) (.agg q.cells.toArray)).run Tryz.prog w = .ok () w:=by
 have h:Tryz.prog.eqGuardType Tryz.prog.depth 107=false:=by kernel_rfl
 cases o <;> simp [eqGuard,program,Sem.run,h]
theorem qjm (p q:Re) (w:World):(binOp .eql 107 (.agg p.cells.toArray) (.agg q.cells.toArray)).run Tryz.prog w = .ok (.bool (decide (p=q))) w:=by
 simp only [binOp,Sem.run_bind,qua,Result.andThen_ok,Sem.run_pure]
theorem zd9 (p q:Re) (w:World):(binOp .neq 107 (.agg p.cells.toArray) (.agg q.cells.toArray)).run Tryz.prog w = .ok (.bool (!decide (p=q))) w:=by
 simp only [binOp,Sem.run_bind,qua,Result.andThen_ok,Sem.run_pure]
structure Rt where
 first:Pt
 depth:Int
 p0:Pt
 p1:Pt
 p2:Pt
 p3:Pt
 deriving DecidableEq
def Rt.nil:Rt:=⟨Pt.nil,0,Pt.nil,Pt.nil,Pt.nil,Pt.nil⟩
def tRt:Ty Rt:=⟨11,fun r=>[Is (.int .i64 r.first.line),Is (.int .i64 r.first.gen),Is (.int .i64 r.depth),Is (.int .i64 r.p0.line),Is (.int .i64 r.p0.gen),Is (.int .i64 r.p1.line),Is (.int .i64 r.p1.gen),Is (.int .i64 r.p2.line),Is (.int .i64 r.p2.gen),Is (.int .i64 r.p3.line),Is (.int .i64 r.p3.gen)],fun _=>rfl⟩
@[reducible] def IsRt (r:Rt):VP:=IsAgg (tRt.cells r)
def Rt.cells (r:Rt):List Value:=[.int .i64 r.first.line,.int .i64 r.first.gen,.int .i64 r.depth,.int .i64 r.p0.line,.int .i64 r.p0.gen,.int .i64 r.p1.line,.int .i64 r.p1.gen,.int .i64 r.p2.line,.int .i64 r.p2.gen,.int .i64 r.p3.line,.int .i64 r.p3.gen]
theorem qrv (d:Nat) (w:World) (p q:Pt):(Op.equalIn (d+2) 55 (.agg #[.int .i64 p.line,.int .i64 p.gen]) (.agg #[.int .i64 q.line,.int .i64 q.gen])).run Tryz.prog w = .ok (decide (p=q)) w:=by
 go_simp
 obtain ⟨a,b⟩:=p
 obtain ⟨a',b'⟩:=q
 by_cases h1:a=a' <;> by_cases h2:b=b' <;> simp [h1,h2]
theorem eq4R_one:∃ i,Tryz.prog.info? 55=some i:=by
 have h:(Tryz.prog.info? 55).isSome=true:=by kernel_rfl
 exact Option.isSome_iff_exists.1 h
theorem qig (cs:Array Value) (k:Nat) (w:World):(part 55 cs k).run Tryz.prog w = .ok (.agg (cs.extract k (k+2))) w:=by
 have hn:(Tryz.prog.info? 55).map (·.size)=some 2:=by kernel_rfl
 have hu:(isAgg 55).run Tryz.prog w = .ok true w:=qfp Tryz.underlying55 w
 simp only [part,Sem.run_bind,hu,Result.andThen_ok,if_true,qb5 hn,Sem.run_pure]
@[go_sem high] theorem eq4R (d:Nat) (w:World) (a0 a1 a2 a3 b0 b1 b2 b3:Pt) :
  (Op.equalIn (d+3) 287 (.agg #[.int .i64 a0.line,.int .i64 a0.gen,.int .i64 a1.line,.int .i64 a1.gen,.int .i64 a2.line,.int .i64 a2.gen,.int .i64 a3.line,.int .i64 a3.gen]) (.agg #[.int .i64 b0.line,.int .i64 b0.gen,.int .i64 b1.line,.int .i64 b1.gen,.int .i64 b2.line,.int .i64 b2.gen,.int .i64 b3.line,.int .i64 b3.gen])).run Tryz.prog w = .ok ((decide (a0=b0)&&(decide (a1=b1)&&(decide (a2=b2)&&decide (a3=b3))))) w:=by
 obtain ⟨i,hi⟩:=eq4R_one
 rw [show d+3=(d+2)+1 from rfl,run_equalIn_array w (d+2) _ _ Tryz.underlying287 hi]
 have hc:Tryz.prog.cellsOf 55=2:=by kernel_rfl
 rw [hc]
 simp only [List.range_succ,List.range_zero,List.nil_append,List.cons_append,Op.eqItems,Sem.run_bind,qig,Result.andThen_ok]
 have e0:=qrv d w a0 b0
 have e1:=qrv d w a1 b1
 have e2:=qrv d w a2 b2
 have e3:=qrv d w a3 b3
 simp [qig,e0,e1,e2,e3]
 by_cases h0:a0=b0
 case neg=>simp [qig,e0,e1,e2,e3,h0]
 by_cases h1:a1=b1
 case neg=>simp [qig,e0,e1,e2,e3,h0,h1]
 by_cases h2:a2=b2
 case neg=>simp [qig,e0,e1,e2,e3,h0,h1,h2]
 by_cases h3:a3=b3 <;> simp [qig,e0,e1,e2,e3,h0,h1,h2,h3]
theorem zd6 (p q:Rt) (w:World):(Op.equal 289 (.agg p.cells.toArray) (.agg q.cells.toArray)).run Tryz.prog w = .ok (decide (p=q)) w:=by
 obtain ⟨a0,ad,a1,a2,a3,a4⟩:=p
 obtain ⟨b0,bd,b1,b2,b3,b4⟩:=q
 have h:(Op.equalIn (9999+1) 289 (.agg #[.int .i64 a0.line,.int .i64 a0.gen,.int .i64 ad,.int .i64 a1.line,.int .i64 a1.gen,.int .i64 a2.line,.int .i64 a2.gen,.int .i64 a3.line,.int .i64 a3.gen,.int .i64 a4.line,.int .i64 a4.gen]) (.agg #[.int .i64 b0.line,.int .i64 b0.gen,.int .i64 bd,.int .i64 b1.line,.int .i64 b1.gen,.int .i64 b2.line,.int .i64 b2.gen,.int .i64 b3.line,.int .i64 b3.gen,.int .i64 b4.line,.int .i64 b4.gen])).run Tryz.prog w = .ok (decide ((⟨a0,ad,a1,a2,a3,a4⟩:Rt)=⟨b0,bd,b1,b2,b3,b4⟩)) w:=by
  go_simp
  obtain ⟨x,y⟩:=a0
  obtain ⟨x',y'⟩:=b0
  by_cases hx:x=x'
  case neg=>simp [hx]
  by_cases hy:y=y'
  case neg=>simp [hx,hy]
  by_cases hd:ad=bd
  case neg=>simp [hx,hy,hd]
  by_cases h1:a1=b1
  case neg=>simp [hx,hy,hd,h1]
  by_cases h2:a2=b2
  case neg=>simp [hx,hy,hd,h1,h2]
  by_cases h3:a3=b3 <;> by_cases h4:a4=b4 <;> simp [hx,hy,hd,h1,h2,h3,h4]
 exact h
theorem qwe (o:BinOp) (x y:Operand) (p q:Rt) (w:World):(eqGuard o 289 x y (.agg p.cells.toArray) (.agg q.cells.toArray)).run Tryz.prog w = .ok () w:=by
 have h:Tryz.prog.eqGuardType Tryz.prog.depth 289=false:=by kernel_rfl
 cases o <;> simp [eqGuard,program,Sem.run,h]
theorem zd7 (p q:Rt) (w:World):(binOp .eql 289 (.agg p.cells.toArray) (.agg q.cells.toArray)).run Tryz.prog w = .ok (.bool (decide (p=q))) w:=by
 simp only [binOp,Sem.run_bind,zd6,Result.andThen_ok,Sem.run_pure]
structure En where
 key:BitVec 32
 to:Pt
 deriving DecidableEq
structure Bk where
 depth:Int
 pat:BitVec 32
 next:Pt
 es:List En
 deriving DecidableEq
def tEn:Ty En:=⟨3,fun e=>[Is (.int .u32 (UV e.key)),Is (.int .i64 e.to.line),Is (.int .i64 e.to.gen)],fun _=>rfl⟩
def tBk:Ty Bk:=⟨5,fun b=>[Is (.int .i64 b.depth),Is (.int .u32 (UV b.pat)),Is (.int .i64 b.next.line),Is (.int .i64 b.next.gen),IsSl tEn b.es],fun _=>rfl⟩
@[reducible] def IsEn (e:En):VP:=IsAgg (tEn.cells e)
@[reducible] def IsBk (b:Bk):VP:=IsAgg (tBk.cells b)
def En.cells (e:En):List Value:=[.int .u32 (UV e.key),.int .i64 e.to.line,.int .i64 e.to.gen]
def Bk.nil:Bk:=⟨0,0#32,Pt.nil,[]⟩
theorem zbe {a:Int} (h:(Lit.int .u64 a).wf=true):∃ x:BitVec 64,a=UV x:=by
 simp [Lit.wf,IntKind.min,IntKind.max,IntKind.signed,IntKind.bits] at h
 refine ⟨BitVec.ofNat 64 a.toNat,?_⟩
 unfold UV
 rw [BitVec.toNat_ofNat]
 omega
theorem zdm {a:Int} (h:(Lit.int .i64 a).wf=true):-9223372036854775808≤a∧a≤9223372036854775807:=by
 simp [Lit.wf,IntKind.min,IntKind.max,IntKind.signed,IntKind.bits] at h
 omega

section
open Go.RowKit Go.ChangeShapes Go.WideShapes Go.ChangeAt
section
variable {H:Type} {enc:TypeId×Value→H} {P:Program} {w:World} {base:Nat} {held:Bool}
theorem trod_lt0 {t:TypeId} {v:Value} {d:DataW H} {ps:List MemPlace} {sp:Nat→Bool} (h:DataW.Trod enc P w 0 sp held t v d ps):∀ x∈ps,x.block<w.heap.size:=by
 obtain ⟨m,hm⟩:=h;exact DataW.trod_lt m _ _ _ hm
end
end
section
open Go.RowKit Go.ChangeShapes Go.WideShapes Go.ChangeAt
def phi (w:World):Fz:=fun b i=>w.cell? ⟨b,i,none⟩
theorem Fn.run {P:Program} {f:FuncId} {As:List VP} {r:Value} (h:FnP P f As (Is r)) (w:World) (vs:List Value) (hv:Alls (phi w) As vs):Calls P f vs.toArray w fun e w'=>e = .returned r∧Below w.heap.size w w':=by
 refine (h (phi w) w vs hv ⟨fun _ _ _ h=>h,by simp,List.Pairwise.nil⟩).mono ?_
 rintro e w' ⟨i,v,φ',rfl,h1,h2⟩
 have h1':v=r:=h1
 subst h1'
 exact ⟨rfl,Kpt.below (by simpa [qb9] using h2.kept)⟩
def tU32:Ty (BitVec 32):=⟨1,fun n=>[Is (.int .u32 (UV n))],fun _=>rfl⟩
def tBool:Ty Bool:=⟨1,fun b=>[Is (.bool b)],fun _=>rfl⟩
def tSl {α:Type} (T:Ty α):Ty (List α):=⟨1,fun xs=>[IsSl T xs],fun _=>rfl⟩
def qi6 (a:Int):Prop:=-9223372036854775808≤a∧a≤9223372036854775807
section
variable {H:Type} {enc:TypeId×Value→H} {P:Program} {w:World} {base:Nat} {sp:Nat→Bool} {held:Bool}
def Rds {H:Type} (enc:TypeId×Value→H) (P:Program) (w:World) (base:Nat) (sp:Nat→Bool) (held:Bool) {α:Type} (t:TypeId) (T:Ty α) (R:α→Prop):Prop:=
 ∀ (fuel:Nat) (cs:List Value) (x:DataW H×List MemPlace),DataW.trod enc P w base sp held fuel t cs=some x→∃ a,Alls (phi w) (T.cells a) cs∧ones cs∧R a
theorem qea {us vs:List Value} (h:ones us) (k:ones vs):ones (us++vs):=fun u hu=>(List.mem_append.1 hu).elim (h u) (k u)
theorem qpv {v:Value} (h:v.oneCell'=true):ones [v]:=qje h qf8
theorem rds_i64 {t:TypeId} (ht:P.underlying t=some (.int .i64)):Rds enc P w base sp held t tI64 qi6:=by
 intro fuel cs x h
 obtain ⟨a,rfl,_,hw⟩:=DataW.trod_int ht h
 exact ⟨a,⟨rfl,trivial⟩,qpv rfl,zdm hw⟩
theorem rds_u64 {t:TypeId} (ht:P.underlying t=some (.int .u64)):Rds enc P w base sp held t qu4 (fun _=>True):=by
 intro fuel cs x h
 obtain ⟨a,rfl,_,hw⟩:=DataW.trod_int ht h
 obtain ⟨b,rfl⟩:=zbe hw
 exact ⟨b,⟨rfl,trivial⟩,qpv rfl,trivial⟩
theorem rds_bool {t:TypeId} (ht:P.underlying t=some .bool):Rds enc P w base sp held t tBool (fun _=>True):=by
 intro fuel cs x h
 obtain ⟨a,rfl,_⟩:=DataW.trod_bool ht h
 exact ⟨a,⟨rfl,trivial⟩,qpv rfl,trivial⟩
theorem rds_slice {α:Type} {T:Ty α} {R:α→Prop} {t e:TypeId} (ht:P.underlying t=some (.slice e)) (hc:P.cellsOf e=T.size) (hs:Nat.blt 0 T.size=true) (he:Rds enc P w base sp held e T R):Rds enc P w base sp held t (tSl T) (fun xs=>∀ a∈xs,R a):=by
 intro fuel cs x h
 have hs':0<T.size:=Nat.le_of_ble_eq_true hs
 rcases Go.Deep.open_slice ht h with ⟨rfl,_⟩|⟨a,len,cap,m,n,D,Pl,rfl,_,hl,hm,hmm,_,hx⟩
 ·exact ⟨[],⟨⟨none,0,0,rfl,rfl,Nat.le_refl _,Nat.zero_le _,.inl rfl⟩,trivial⟩,qpv rfl,fun a ha=>absurd ha (List.not_mem_nil)⟩
 have hlm:len≤m:=by rw [hmm];split <;> omega
 rcases Nat.eq_zero_or_pos len with h0|h0
 ·subst h0
  exact ⟨[],⟨⟨some a,0,cap,rfl,rfl,Nat.zero_le _,hm,.inl rfl⟩,trivial⟩,qpv rfl,fun a ha=>absurd ha (List.not_mem_nil)⟩
 have hspot:a.spot=none:=by
  obtain ⟨cs',h1,h2⟩:=hx 0 (by omega)
  rw [hc] at h1
  obtain ⟨_,hlen,hcell⟩:=World.cells?_some h1
  have h3:=hcell 0 hs'
  rw [List.getElem?_eq_getElem (by omega)] at h3
  simpa [Addr.add] using World.cell?_spot h3
 have key:∀ i,i<len→∃ y:α,a.spot=none∧RefAt (phi w) a.block (a.off+i*T.size) (T.cells y)∧R y:=fun i hi=>by
  obtain ⟨cs',h1,h2⟩:=hx i (by omega)
  rw [hc] at h1
  obtain ⟨_,hlen,hcell⟩:=World.cells?_some h1
  obtain ⟨y,g1,g2,g3⟩:=he _ _ _ h2
  refine ⟨y,hspot,fun j A hA=>?_,g3⟩
  obtain ⟨u,k1,k2⟩:=g1.get hA
  refine ⟨u,?_,k2,g2 u (List.mem_of_getElem? k1)⟩
  have hj:j<T.size:=by
   have:=(List.getElem?_eq_some_iff.1 hA).1
   rw [T.len] at this;exact this
  have h3:=hcell j hj
  rw [k1] at h3
  obtain ⟨b,o,q⟩:=a
  dsimp only at hspot
  subst hspot
  rw [qsa,qsa] at h3
  exact h3
 obtain ⟨y0,_,_⟩:=key 0 h0
 have:Inhabited α:=⟨y0⟩
 obtain ⟨A,hA⟩:=Go.Deep.choose_lt key
 obtain ⟨b,o,q⟩:=a
 dsimp only at hspot hA
 subst hspot
 refine ⟨(List.range len).map A,⟨⟨some ⟨b,o,none⟩,len,cap,rfl,by simp,hl,hm,.inr ⟨b,o,rfl,fun k x hk=>?_⟩⟩,trivial⟩,qpv rfl,fun y hy=>?_⟩
 ·have hlt:k<len:=by
   have:=(List.getElem?_eq_some_iff.1 hk).1
   simpa using this
  rw [List.getElem?_map,List.getElem?_range hlt] at hk
  simp only [Option.map_some,Option.some.injEq] at hk
  subst hk
  exact (hA k hlt).2.1
 ·obtain ⟨i,hi,rfl⟩:=List.mem_map.1 hy
  exact (hA i (List.mem_range.1 hi)).2.2
theorem rds_arg1 {α:Type} {T:Ty α} {R:α→Prop} {t:TypeId} {v:Value} {d:DataW H} {ps:List MemPlace} {A:α→VP} (hT:∀ a,T.cells a=[A a]) (he:Rds enc P w base sp held t T R) (hv:v.cells.toList=[v])
  (h:DataW.Trod enc P w base sp held t v d ps):∃ a,(A a).ok (phi w) v∧R a:=by
 obtain ⟨fuel,hf⟩:=h
 obtain ⟨a,h1,_,h2⟩:=he _ _ _ hf
 rw [hv,hT] at h1
 exact ⟨a,h1.1,h2⟩
theorem rds_argS {α:Type} {T:Ty α} {R:α→Prop} {t:TypeId} {fs:Array Field} (ht:P.underlying t=some (.struct fs)) {r:Reach} {b0:Nat} {v:Value} {d:DataW H} {ps:List MemPlace} (he:Rds enc P w base sp held t T R)
  (hval:Value.okWide P w r b0 t v) (h:DataW.Trod enc P w base sp held t v d ps):∃ a,(IsAgg (T.cells a)).ok (phi w) v∧R a:=by
 obtain ⟨cs,rfl,_⟩:=okWide_struct ht hval
 obtain ⟨fuel,hf⟩:=h
 obtain ⟨a,h1,h2,h3⟩:=he _ _ _ hf
 exact ⟨a,⟨_,rfl,h1,h2⟩,h3⟩
theorem rds_argSl {α:Type} {T:Ty α} {R:List α→Prop} {t e:TypeId} (ht:P.underlying t=some (.slice e)) {r:Reach} {b0:Nat} {v:Value} {d:DataW H} {ps:List MemPlace} (he:Rds enc P w base sp held t (tSl T) R)
  (hval:Value.okWide P w r b0 t v) (h:DataW.Trod enc P w base sp held t v d ps):∃ xs,(IsSl T xs).ok (phi w) v∧R xs:=by
 obtain ⟨a,len,cap,rfl⟩:=okWide_slice ht hval
 exact rds_arg1 (A:=IsSl T) (fun _=>rfl) he rfl h
end
end
structure S19 where
 need:List Int
 fresh:List Pg
 writes:List Pg
 s:Int
 code:Int
 over:Bool
def tS19:Ty S19:=⟨6,fun a=>[IsSl tI64 a.need,IsSl tPg a.fresh,IsSl tPg a.writes,Is (.int .i64 a.s),Is (.int .i64 a.code),Is (.bool a.over)],fun _=>rfl⟩
@[reducible] def zfh (a:S19):VP:=IsAgg (tS19.cells a)
def tS19F (B:Nat):Ty S19:=⟨6,fun a=>[IsSl tI64 a.need,IsSl tPg a.fresh,qbd B (IsSl tPg a.writes),Is (.int .i64 a.s),Is (.int .i64 a.code),Is (.bool a.over)],fun _=>rfl⟩
@[reducible] def IsS19F (B:Nat) (a:S19):VP:=IsAgg ((tS19F B).cells a)
def S19.nil:S19:=⟨[],[],[],0,0,false⟩
structure Rw where
 key:BitVec 32
 cols0:Int
 cols1:Int
 cols2:Int
def tRw:Ty Rw:=⟨4,fun a=>[Is (.int .u32 (UV a.key)),Is (.int .i64 a.cols0),Is (.int .i64 a.cols1),Is (.int .i64 a.cols2)],fun _=>rfl⟩
@[reducible] def IsRw (a:Rw):VP:=IsAgg (tRw.cells a)
def Rw.nil:Rw:=⟨0#32,0,0,0⟩
structure Vs where
 row:Rw
 deleted:Bool
 epoch:BitVec 32
 stamp:BitVec 64
 prev:Pt
def tVs:Ty Vs:=⟨9,fun a=>[Is (.int .u32 (UV a.row.key)),Is (.int .i64 a.row.cols0),Is (.int .i64 a.row.cols1),Is (.int .i64 a.row.cols2),Is (.bool a.deleted),Is (.int .u32 (UV a.epoch)),Is (.int .u64 (UV a.stamp)),Is (.int .i64 a.prev.line),Is (.int .i64 a.prev.gen)],fun _=>rfl⟩
@[reducible] def IsVs (a:Vs):VP:=IsAgg (tVs.cells a)
def Vs.nil:Vs:=⟨Rw.nil,false,0#32,0#64,Pt.nil⟩
structure O23 where
 code:Int
 found:Bool
 done:Bool
 split:Bool
 hint:Bool
 deep:Bool
 to:Pt
 check:List Int
 hops:Int
 fresh:Int
def tO23:Ty O23:=⟨11,fun a=>[Is (.int .i64 a.code),Is (.bool a.found),Is (.bool a.done),Is (.bool a.split),Is (.bool a.hint),Is (.bool a.deep),Is (.int .i64 a.to.line),Is (.int .i64 a.to.gen),IsSl tI64 a.check,Is (.int .i64 a.hops),Is (.int .i64 a.fresh)],fun _=>rfl⟩
@[reducible] def IsO23 (a:O23):VP:=IsAgg (tO23.cells a)
def O23.nil:O23:=⟨0,false,false,false,false,false,Pt.nil,[],0,0⟩
structure S23 where
 need:List Int
 writes:List Pg
 out:O23
 over:Bool
def tS23:Ty S23:=⟨14,fun a=>[IsSl tI64 a.need,IsSl tPg a.writes,Is (.int .i64 a.out.code),Is (.bool a.out.found),Is (.bool a.out.done),Is (.bool a.out.split),Is (.bool a.out.hint),Is (.bool a.out.deep),Is (.int .i64 a.out.to.line),Is (.int .i64 a.out.to.gen),IsSl tI64 a.out.check,Is (.int .i64 a.out.hops),Is (.int .i64 a.out.fresh),Is (.bool a.over)],fun _=>rfl⟩
def qo6 (B:Nat):Ty S23:=⟨14,fun a=>[IsSl tI64 a.need,qbd B (IsSl tPg a.writes),Is (.int .i64 a.out.code),Is (.bool a.out.found),Is (.bool a.out.done),Is (.bool a.out.split),Is (.bool a.out.hint),Is (.bool a.out.deep),Is (.int .i64 a.out.to.line),Is (.int .i64 a.out.to.gen),IsSl tI64 a.out.check,Is (.int .i64 a.out.hops),Is (.int .i64 a.out.fresh),Is (.bool a.over)],fun _=>rfl⟩
@[reducible] def qqk (B:Nat) (a:S23):VP:=IsAgg ((qo6 B).cells a)
def S23.nil:S23:=⟨[],[],O23.nil,false⟩
structure P23 where
 need:List Int
 empty:Bool
 page:Pg
 bucket:Bk
 out:O23
def tP23:Ty P23:=⟨27,fun a=>[IsSl tI64 a.need,Is (.bool a.empty),Is (.int .i64 a.page.l),Is (.int .u64 (UV a.page.h)),Is (.int .u64 (UV a.page.d0)),Is (.int .u64 (UV a.page.d1)),Is (.int .u64 (UV a.page.d2)),Is (.int .u64 (UV a.page.d3)),Is (.int .u64 (UV a.page.d4)),Is (.int .u64 (UV a.page.d5)),Is (.int .u64 (UV a.page.d6)),Is (.int .i64 a.bucket.depth),Is (.int .u32 (UV a.bucket.pat)),Is (.int .i64 a.bucket.next.line),Is (.int .i64 a.bucket.next.gen),IsSl tEn a.bucket.es,Is (.int .i64 a.out.code),Is (.bool a.out.found),Is (.bool a.out.done),Is (.bool a.out.split),Is (.bool a.out.hint),Is (.bool a.out.deep),Is (.int .i64 a.out.to.line),Is (.int .i64 a.out.to.gen),IsSl tI64 a.out.check,Is (.int .i64 a.out.hops),Is (.int .i64 a.out.fresh)],fun _=>rfl⟩
@[reducible] def IsP23 (a:P23):VP:=IsAgg (tP23.cells a)
def P23.nil:P23:=⟨[],false,⟨0,0#64,0#64,0#64,0#64,0#64,0#64,0#64,0#64⟩,Bk.nil,O23.nil⟩
structure N24 where
 level:Int
 leftmost:Bool
 dead:Bool
 high:BitVec 32
 right:Pt
 entries:List En
def tN24:Ty N24:=⟨7,fun a=>[Is (.int .i64 a.level),Is (.bool a.leftmost),Is (.bool a.dead),Is (.int .u32 (UV a.high)),Is (.int .i64 a.right.line),Is (.int .i64 a.right.gen),IsSl tEn a.entries],fun _=>rfl⟩
@[reducible] def qw0 (a:N24):VP:=IsAgg (tN24.cells a)
def N24.nil:N24:=⟨0,false,false,0#32,Pt.nil,[]⟩
structure Op24 where
 kind:Int
 key:BitVec 32
 last:BitVec 32
 to:Pt
 level:Int
 limit:Int
 fresh:List Pg
def tOp24:Ty Op24:=⟨8,fun a=>[Is (.int .i64 a.kind),Is (.int .u32 (UV a.key)),Is (.int .u32 (UV a.last)),Is (.int .i64 a.to.line),Is (.int .i64 a.to.gen),Is (.int .i64 a.level),Is (.int .i64 a.limit),IsSl tPg a.fresh],fun _=>rfl⟩
@[reducible] def qm9 (a:Op24):VP:=IsAgg (tOp24.cells a)
def Op24.nil:Op24:=⟨0,0#32,0#32,Pt.nil,0,0,[]⟩
structure O24 where
 code:Int
 found:Bool
 done:Bool
 split:Bool
 unposted:Bool
 dead:Bool
 more:Bool
 to:Pt
 entries:List En
 check:List Int
 hops:Int
 fresh:Int
 height:Int
def tO24:Ty O24:=⟨14,fun a=>[Is (.int .i64 a.code),Is (.bool a.found),Is (.bool a.done),Is (.bool a.split),Is (.bool a.unposted),Is (.bool a.dead),Is (.bool a.more),Is (.int .i64 a.to.line),Is (.int .i64 a.to.gen),IsSl tEn a.entries,IsSl tI64 a.check,Is (.int .i64 a.hops),Is (.int .i64 a.fresh),Is (.int .i64 a.height)],fun _=>rfl⟩
@[reducible] def qwz (a:O24):VP:=IsAgg (tO24.cells a)
def O24.nil:O24:=⟨0,false,false,false,false,false,false,Pt.nil,[],[],0,0,0⟩
structure S24 where
 need:List Int
 writes:List Pg
 out:O24
 over:Bool
def tS24:Ty S24:=⟨17,fun a=>[IsSl tI64 a.need,IsSl tPg a.writes,Is (.int .i64 a.out.code),Is (.bool a.out.found),Is (.bool a.out.done),Is (.bool a.out.split),Is (.bool a.out.unposted),Is (.bool a.out.dead),Is (.bool a.out.more),Is (.int .i64 a.out.to.line),Is (.int .i64 a.out.to.gen),IsSl tEn a.out.entries,IsSl tI64 a.out.check,Is (.int .i64 a.out.hops),Is (.int .i64 a.out.fresh),Is (.int .i64 a.out.height),Is (.bool a.over)],fun _=>rfl⟩
def qsw (B:Nat):Ty S24:=⟨17,fun a=>[IsSl tI64 a.need,qbd B (IsSl tPg a.writes),Is (.int .i64 a.out.code),Is (.bool a.out.found),Is (.bool a.out.done),Is (.bool a.out.split),Is (.bool a.out.unposted),Is (.bool a.out.dead),Is (.bool a.out.more),Is (.int .i64 a.out.to.line),Is (.int .i64 a.out.to.gen),IsSl tEn a.out.entries,IsSl tI64 a.out.check,Is (.int .i64 a.out.hops),Is (.int .i64 a.out.fresh),Is (.int .i64 a.out.height),Is (.bool a.over)],fun _=>rfl⟩
@[reducible] def qjy (B:Nat) (a:S24):VP:=IsAgg ((qsw B).cells a)
def S24.nil:S24:=⟨[],[],O24.nil,false⟩
structure P24 where
 need:List Int
 noTree:Bool
 none:Bool
 code:Int
 page:Pg
 node:N24
 top:N24
 hops:Int
 unposted:Bool
 dead:Bool
def tP24:Ty P24:=⟨30,fun a=>[IsSl tI64 a.need,Is (.bool a.noTree),Is (.bool a.none),Is (.int .i64 a.code),Is (.int .i64 a.page.l),Is (.int .u64 (UV a.page.h)),Is (.int .u64 (UV a.page.d0)),Is (.int .u64 (UV a.page.d1)),Is (.int .u64 (UV a.page.d2)),Is (.int .u64 (UV a.page.d3)),Is (.int .u64 (UV a.page.d4)),Is (.int .u64 (UV a.page.d5)),Is (.int .u64 (UV a.page.d6)),Is (.int .i64 a.node.level),Is (.bool a.node.leftmost),Is (.bool a.node.dead),Is (.int .u32 (UV a.node.high)),Is (.int .i64 a.node.right.line),Is (.int .i64 a.node.right.gen),IsSl tEn a.node.entries,Is (.int .i64 a.top.level),Is (.bool a.top.leftmost),Is (.bool a.top.dead),Is (.int .u32 (UV a.top.high)),Is (.int .i64 a.top.right.line),Is (.int .i64 a.top.right.gen),IsSl tEn a.top.entries,Is (.int .i64 a.hops),Is (.bool a.unposted),Is (.bool a.dead)],fun _=>rfl⟩
@[reducible] def quz (a:P24):VP:=IsAgg (tP24.cells a)
def P24.nil:P24:=⟨[],false,false,0,⟨0,0#64,0#64,0#64,0#64,0#64,0#64,0#64,0#64⟩,N24.nil,N24.nil,0,false,false⟩
structure Ep26 where
 kind:Int
 client:Int
 inc:Int
 lines:Int
 for_:Int
 list:List Pt
def tEp26:Ty Ep26:=⟨6,fun a=>[Is (.int .i64 a.kind),Is (.int .i64 a.client),Is (.int .i64 a.inc),Is (.int .i64 a.lines),Is (.int .i64 a.for_),IsSl tPt a.list],fun _=>rfl⟩
@[reducible] def qfx (a:Ep26):VP:=IsAgg (tEp26.cells a)
def Ep26.nil:Ep26:=⟨0,0,0,0,0,[]⟩
structure EO26 where
 code:Int
 epoch:BitVec 32
 blocker:Int
 freed:List Pt
 check:List Int
def tEO26:Ty EO26:=⟨5,fun a=>[Is (.int .i64 a.code),Is (.int .u32 (UV a.epoch)),Is (.int .i64 a.blocker),IsSl tPt a.freed,IsSl tI64 a.check],fun _=>rfl⟩
@[reducible] def qec (a:EO26):VP:=IsAgg (tEO26.cells a)
def EO26.nil:EO26:=⟨0,0#32,0,[],[]⟩
structure ES26 where
 need:List Int
 writes:List Pg
 out:EO26
 over:Bool
 locked:Bool
def tES26:Ty ES26:=⟨9,fun a=>[IsSl tI64 a.need,IsSl tPg a.writes,Is (.int .i64 a.out.code),Is (.int .u32 (UV a.out.epoch)),Is (.int .i64 a.out.blocker),IsSl tPt a.out.freed,IsSl tI64 a.out.check,Is (.bool a.over),Is (.bool a.locked)],fun _=>rfl⟩
@[reducible] def IsES26 (a:ES26):VP:=IsAgg (tES26.cells a)
def qw6 (B:Nat):Ty ES26:=⟨9,fun a=>[IsSl tI64 a.need,qbd B (IsSl tPg a.writes),Is (.int .i64 a.out.code),Is (.int .u32 (UV a.out.epoch)),Is (.int .i64 a.out.blocker),IsSl tPt a.out.freed,IsSl tI64 a.out.check,Is (.bool a.over),Is (.bool a.locked)],fun _=>rfl⟩
@[reducible] def qhk (B:Nat) (a:ES26):VP:=IsAgg ((qw6 B).cells a)
def ES26.nil:ES26:=⟨[],[],EO26.nil,false,false⟩
structure Cu where
 phase:Int
 level:Int
 key:BitVec 32
def tCu:Ty Cu:=⟨3,fun a=>[Is (.int .i64 a.phase),Is (.int .i64 a.level),Is (.int .u32 (UV a.key))],fun _=>rfl⟩
@[reducible] def IsCu (a:Cu):VP:=IsAgg (tCu.cells a)
def Cu.nil:Cu:=⟨0,0,0#32⟩
structure SO26 where
 code:Int
 next:Cu
 did:Bool
 check:List Int
def tSO26:Ty SO26:=⟨6,fun a=>[Is (.int .i64 a.code),Is (.int .i64 a.next.phase),Is (.int .i64 a.next.level),Is (.int .u32 (UV a.next.key)),Is (.bool a.did),IsSl tI64 a.check],fun _=>rfl⟩
def SO26.nil:SO26:=⟨0,Cu.nil,false,[]⟩
structure SS26 where
 need:List Int
 writes:List Pg
 out:SO26
 over:Bool
def tSS26:Ty SS26:=⟨9,fun a=>[IsSl tI64 a.need,IsSl tPg a.writes,Is (.int .i64 a.out.code),Is (.int .i64 a.out.next.phase),Is (.int .i64 a.out.next.level),Is (.int .u32 (UV a.out.next.key)),Is (.bool a.out.did),IsSl tI64 a.out.check,Is (.bool a.over)],fun _=>rfl⟩
def zbn (B:Nat):Ty SS26:=⟨9,fun a=>[IsSl tI64 a.need,qbd B (IsSl tPg a.writes),Is (.int .i64 a.out.code),Is (.int .i64 a.out.next.phase),Is (.int .i64 a.out.next.level),Is (.int .u32 (UV a.out.next.key)),Is (.bool a.out.did),IsSl tI64 a.out.check,Is (.bool a.over)],fun _=>rfl⟩
@[reducible] def qjx (B:Nat) (a:SS26):VP:=IsAgg ((zbn B).cells a)
def SS26.nil:SS26:=⟨[],[],SO26.nil,false⟩
structure Co where
 col:Int
 op:Int
 value:Int
def tCo:Ty Co:=⟨3,fun a=>[Is (.int .i64 a.col),Is (.int .i64 a.op),Is (.int .i64 a.value)],fun _=>rfl⟩
def Co.nil:Co:=⟨0,0,0⟩
structure St29 where
 kind:Int
 key:BitVec 32
 last:BitVec 32
 cols0:Int
 cols1:Int
 cols2:Int
 col:Int
 value:Int
 where_:Co
 limit:Int
def tSt29:Ty St29:=⟨12,fun a=>[Is (.int .i64 a.kind),Is (.int .u32 (UV a.key)),Is (.int .u32 (UV a.last)),Is (.int .i64 a.cols0),Is (.int .i64 a.cols1),Is (.int .i64 a.cols2),Is (.int .i64 a.col),Is (.int .i64 a.value),Is (.int .i64 a.where_.col),Is (.int .i64 a.where_.op),Is (.int .i64 a.where_.value),Is (.int .i64 a.limit)],fun _=>rfl⟩
@[reducible] def qo2 (a:St29):VP:=IsAgg (tSt29.cells a)
def St29.nil:St29:=⟨0,0#32,0#32,0,0,0,0,0,Co.nil,0⟩
structure Rs29 where
 rows:List Rw
 number:Int
def tRs29:Ty Rs29:=⟨2,fun a=>[IsSl tRw a.rows,Is (.int .i64 a.number)],fun _=>rfl⟩
@[reducible] def IsRs29 (a:Rs29):VP:=IsAgg (tRs29.cells a)
def Rs29.nil:Rs29:=⟨[],0⟩
structure J31 where
 client:Int
 seq:Int
 lines:Int
 program:List St29
 access:List Int
 snapshot:Bool
 vector0:BitVec 64
 vector1:BitVec 64
 vector2:BitVec 64
 vector3:BitVec 64
 vector4:BitVec 64
 vector5:BitVec 64
def tJ31:Ty J31:=⟨12,fun a=>[Is (.int .i64 a.client),Is (.int .i64 a.seq),Is (.int .i64 a.lines),IsSl tSt29 a.program,IsSl tI64 a.access,Is (.bool a.snapshot),Is (.int .u64 (UV a.vector0)),Is (.int .u64 (UV a.vector1)),Is (.int .u64 (UV a.vector2)),Is (.int .u64 (UV a.vector3)),Is (.int .u64 (UV a.vector4)),Is (.int .u64 (UV a.vector5))],fun _=>rfl⟩
@[reducible] def IsJ31 (a:J31):VP:=IsAgg (tJ31.cells a)
def J31.nil:J31:=⟨0,0,0,[],[],false,0#64,0#64,0#64,0#64,0#64,0#64⟩
structure O31 where
 code:Int
 statement:Int
 want:Int
 results:List Rs29
 check:List Int
 hint:Bool
 deep:Bool
 unposted:Bool
 dead:Bool
def tO31:Ty O31:=⟨9,fun a=>[Is (.int .i64 a.code),Is (.int .i64 a.statement),Is (.int .i64 a.want),IsSl tRs29 a.results,IsSl tI64 a.check,Is (.bool a.hint),Is (.bool a.deep),Is (.bool a.unposted),Is (.bool a.dead)],fun _=>rfl⟩
def O31.nil:O31:=⟨0,0,0,[],[],false,false,false,false⟩
structure S31 where
 need:List Int
 writes:List Pg
 out:O31
 over:Bool
def tS31:Ty S31:=⟨12,fun a=>[IsSl tI64 a.need,IsSl tPg a.writes,Is (.int .i64 a.out.code),Is (.int .i64 a.out.statement),Is (.int .i64 a.out.want),IsSl tRs29 a.out.results,IsSl tI64 a.out.check,Is (.bool a.out.hint),Is (.bool a.out.deep),Is (.bool a.out.unposted),Is (.bool a.out.dead),Is (.bool a.over)],fun _=>rfl⟩
def tS31F (B:Nat):Ty S31:=⟨12,fun a=>[IsSl tI64 a.need,qbd B (IsSl tPg a.writes),Is (.int .i64 a.out.code),Is (.int .i64 a.out.statement),Is (.int .i64 a.out.want),IsSl tRs29 a.out.results,IsSl tI64 a.out.check,Is (.bool a.out.hint),Is (.bool a.out.deep),Is (.bool a.out.unposted),Is (.bool a.out.dead),Is (.bool a.over)],fun _=>rfl⟩
def S31.nil:S31:=⟨[],[],O31.nil,false⟩
structure Run31 where
 job:J31
 known:List Pg
 w:List Pg
 c:List Int
 need:List Int
 code:Int
 out:O31
def tRun31:Ty Run31:=⟨26,fun a=>[Is (.int .i64 a.job.client),Is (.int .i64 a.job.seq),Is (.int .i64 a.job.lines),IsSl tSt29 a.job.program,IsSl tI64 a.job.access,Is (.bool a.job.snapshot),Is (.int .u64 (UV a.job.vector0)),Is (.int .u64 (UV a.job.vector1)),Is (.int .u64 (UV a.job.vector2)),Is (.int .u64 (UV a.job.vector3)),Is (.int .u64 (UV a.job.vector4)),Is (.int .u64 (UV a.job.vector5)),IsSl tPg a.known,IsSl tPg a.w,IsSl tI64 a.c,IsSl tI64 a.need,Is (.int .i64 a.code),Is (.int .i64 a.out.code),Is (.int .i64 a.out.statement),Is (.int .i64 a.out.want),IsSl tRs29 a.out.results,IsSl tI64 a.out.check,Is (.bool a.out.hint),Is (.bool a.out.deep),Is (.bool a.out.unposted),Is (.bool a.out.dead)],fun _=>rfl⟩
def tRun31F (B:Nat):Ty Run31:=⟨26,fun a=>[Is (.int .i64 a.job.client),Is (.int .i64 a.job.seq),Is (.int .i64 a.job.lines),IsSl tSt29 a.job.program,IsSl tI64 a.job.access,Is (.bool a.job.snapshot),Is (.int .u64 (UV a.job.vector0)),Is (.int .u64 (UV a.job.vector1)),Is (.int .u64 (UV a.job.vector2)),Is (.int .u64 (UV a.job.vector3)),Is (.int .u64 (UV a.job.vector4)),Is (.int .u64 (UV a.job.vector5)),IsSl tPg a.known,qbd B (IsSl tPg a.w),IsSl tI64 a.c,IsSl tI64 a.need,Is (.int .i64 a.code),Is (.int .i64 a.out.code),Is (.int .i64 a.out.statement),Is (.int .i64 a.out.want),IsSl tRs29 a.out.results,IsSl tI64 a.out.check,Is (.bool a.out.hint),Is (.bool a.out.deep),Is (.bool a.out.unposted),Is (.bool a.out.dead)],fun _=>rfl⟩
def Run31.nil:Run31:=⟨J31.nil,[],[],[],[],0,O31.nil⟩
structure Fd31 where
 head:Bool
 page:Pg
 version:Vs
 there:Bool
def tFd31:Ty Fd31:=⟨20,fun a=>[Is (.bool a.head),Is (.int .i64 a.page.l),Is (.int .u64 (UV a.page.h)),Is (.int .u64 (UV a.page.d0)),Is (.int .u64 (UV a.page.d1)),Is (.int .u64 (UV a.page.d2)),Is (.int .u64 (UV a.page.d3)),Is (.int .u64 (UV a.page.d4)),Is (.int .u64 (UV a.page.d5)),Is (.int .u64 (UV a.page.d6)),Is (.int .u32 (UV a.version.row.key)),Is (.int .i64 a.version.row.cols0),Is (.int .i64 a.version.row.cols1),Is (.int .i64 a.version.row.cols2),Is (.bool a.version.deleted),Is (.int .u32 (UV a.version.epoch)),Is (.int .u64 (UV a.version.stamp)),Is (.int .i64 a.version.prev.line),Is (.int .i64 a.version.prev.gen),Is (.bool a.there)],fun _=>rfl⟩
@[reducible] def IsFd31 (a:Fd31):VP:=IsAgg (tFd31.cells a)
def Fd31.nil:Fd31:=⟨false,⟨0,0#64,0#64,0#64,0#64,0#64,0#64,0#64,0#64⟩,Vs.nil,false⟩
structure Acn where
 kind:Int
 client:Int
 key:Int
 a:Int
 b:Int
 n:Int
def tAct:Ty Acn:=⟨6,fun a=>[Is (.int .i64 a.kind),Is (.int .i64 a.client),Is (.int .i64 a.key),Is (.int .i64 a.a),Is (.int .i64 a.b),Is (.int .i64 a.n)],fun _=>rfl⟩
@[reducible] def IsAct (a:Acn):VP:=IsAgg (tAct.cells a)
def Acn.nil:Acn:=⟨0,0,0,0,0,0⟩
structure Hp where
 pages:List Pg
 lines:Int
 seq:Int
 table:List Rw
 cursor:Cu
def tHp:Ty Hp:=⟨7,fun a=>[IsSl tPg a.pages,Is (.int .i64 a.lines),Is (.int .i64 a.seq),IsSl tRw a.table,Is (.int .i64 a.cursor.phase),Is (.int .i64 a.cursor.level),Is (.int .u32 (UV a.cursor.key))],fun _=>rfl⟩
def Hp.nil:Hp:=⟨[],0,0,[],Cu.nil⟩
structure S8 where
 s0:Pt
 s1:Pt
 s2:Pt
 s3:Pt
 s4:Pt
 s5:Pt
 s6:Pt
 s7:Pt
 deriving DecidableEq
def tS8:Ty S8:=⟨16,fun s=>[Is (.int .i64 s.s0.line),Is (.int .i64 s.s0.gen),Is (.int .i64 s.s1.line),Is (.int .i64 s.s1.gen),Is (.int .i64 s.s2.line),Is (.int .i64 s.s2.gen),Is (.int .i64 s.s3.line),Is (.int .i64 s.s3.gen),Is (.int .i64 s.s4.line),Is (.int .i64 s.s4.gen),Is (.int .i64 s.s5.line),Is (.int .i64 s.s5.gen),Is (.int .i64 s.s6.line),Is (.int .i64 s.s6.gen),Is (.int .i64 s.s7.line),Is (.int .i64 s.s7.gen)],fun _=>rfl⟩
@[reducible] def IsS8 (s:S8):VP:=IsAgg (tS8.cells s)
def S8.cells (s:S8):List Value:=[.int .i64 s.s0.line,.int .i64 s.s0.gen,.int .i64 s.s1.line,.int .i64 s.s1.gen,.int .i64 s.s2.line,.int .i64 s.s2.gen,.int .i64 s.s3.line,.int .i64 s.s3.gen,.int .i64 s.s4.line,.int .i64 s.s4.gen,.int .i64 s.s5.line,.int .i64 s.s5.gen,.int .i64 s.s6.line,.int .i64 s.s6.gen,.int .i64 s.s7.line,.int .i64 s.s7.gen]
def S8.nil:S8:=⟨Pt.nil,Pt.nil,Pt.nil,Pt.nil,Pt.nil,Pt.nil,Pt.nil,Pt.nil⟩
theorem qbm {a b:List VP} (h:a=b:=by (first|((simp only [tPg,qu4,tI64,tPt,tHd,tRe,tNd,tRt,tS8,tEn,tBk,tS19,tRw,tVs,tO23,tS23,tP23,tN24,tOp24,tO24,tS24,tP24,tEp26,tEO26,tES26,tCu,tSO26,tSS26,tCo,tSt29,tRs29,tJ31,tO31,tS31,tRun31,tFd31,tHp,tS19F,qo6,qsw,qw6,zbn,tS31F,tRun31F,qdz,Nat.reduceMul,Nat.reduceAdd,Value.cells,ovr,List.set_cons_succ,List.set_cons_zero,List.map_cons,List.map_nil,List.drop_succ_cons,List.drop_zero,List.take_succ_cons,List.take_zero,List.flatMap_cons,List.flatMap_nil,List.append_nil,List.cons_append,List.nil_append,List.toList_toArray]);(try exact rfl))|exact rfl)):a=b:=h
theorem offT {x k:Nat} (h:x=k:=by first|exact (rfl:_=0)|exact (rfl:_=1)|exact (rfl:_=2)|exact (rfl:_=3)|exact (rfl:_=4)|exact (rfl:_=5)|exact (rfl:_=6)|exact (rfl:_=7)|exact (rfl:_=8)|exact (rfl:_=9)|exact (rfl:_=10)|exact (rfl:_=11)|exact (rfl:_=12)|exact (rfl:_=13)|exact (rfl:_=14)|exact (rfl:_=15)|exact (rfl:_=16)|exact (rfl:_=17)|exact (rfl:_=18)|exact (rfl:_=19)|exact (rfl:_=20)|exact (rfl:_=21)|exact (rfl:_=22)|exact (rfl:_=23)|exact (rfl:_=24)|exact (rfl:_=25)|exact (rfl:_=26)|exact (rfl:_=27)|exact (rfl:_=28)|exact (rfl:_=29)|exact (rfl:_=30)|exact (rfl:_=31)|exact (rfl:_=32)|exact (rfl:_=33)|exact (rfl:_=34)|exact (rfl:_=35)|exact (rfl:_=36)|exact (rfl:_=37)|exact (rfl:_=38)|exact (rfl:_=39)):x=k:=h
theorem qug {n s:Nat} {As:List VP}:qd1 (qeu n s As) [qeu n s As]:=fun φ v ⟨b,e,k⟩=>⟨[v],by rw [e];rfl,⟨⟨b,e,k⟩,trivial⟩,by rw [e];exact qis rfl⟩
theorem qy7 {B:Nat} {α:Type} {T:Ty α} {xs:List α}:qd1 (qbd B (IsSl T xs)) [qbd B (IsSl T xs)]:=fun φ v h=>by
 obtain ⟨a,n,cp,e,k⟩:=h
 exact ⟨[v],by rw [e];rfl,⟨⟨a,n,cp,e,k⟩,trivial⟩,by rw [e];exact qis rfl⟩
theorem qp7 {b:Bool} {n s:Nat} {As:List VP} {α:Type} {T:Ty α} {xs:List α}:qd1 (qds b (qeu n s As) (IsSl T xs)) [qds b (qeu n s As) (IsSl T xs)]:=fun φ v h=>by
 refine ⟨[v],?_,⟨h,trivial⟩,?_⟩
 ·cases b
  ·obtain ⟨a,m,cp,e,_⟩:(IsSl T xs).ok φ v:=h
   rw [e];rfl
  ·obtain ⟨a,e,_⟩:(qeu n s As).ok φ v:=h
   rw [e];rfl
 ·cases b
  ·obtain ⟨a,m,cp,e,_⟩:(IsSl T xs).ok φ v:=h
   rw [e];exact qis rfl
  ·obtain ⟨a,e,_⟩:(qeu n s As).ok φ v:=h
   rw [e];exact qis rfl
theorem qc6 {A:VP} {As:List VP} (h:qd1 A As:=by first|exact qon|exact qr1 rfl|exact qr0|exact qug|exact qy7|exact qp7|exact qol|exact qom rfl):qd1 A As:=h
theorem asT {p:Prop} (h:p:=by with_reducible assumption):p:=h
theorem szT {x:Option Nat} {n:Nat} (h:x=some n:=by first|exact (rfl:_=some 9)|exact (rfl:_=some 2)|exact (rfl:_=some 14)|exact (rfl:_=some 11)|exact (rfl:_=some 3)|exact (rfl:_=some 30)|exact (rfl:_=some 7)|exact (rfl:_=some 16)|exact (rfl:_=some 5)|exact (rfl:_=some 15)|exact (rfl:_=some 4)|exact (rfl:_=some 20)|exact (rfl:_=some 12)|exact (rfl:_=some 8)|exact (rfl:_=some 6)|exact (rfl:_=some 17)|exact (rfl:_=some 27)|exact (rfl:_=some 1)|exact (rfl:_=some 10)|exact (rfl:_=some 13)|exact (rfl:_=some 18)|exact (rfl:_=some 19)|exact (rfl:_=some 21)|exact (rfl:_=some 22)|exact (rfl:_=some 23)|exact (rfl:_=some 24)|exact (rfl:_=some 25)|exact (rfl:_=some 26)|exact (rfl:_=some 28)|exact (rfl:_=some 29)):x=some n:=h
theorem offI {x:Int} {k:Nat} (h:x=k:=by first|exact (rfl:_=((0:Nat):Int))|exact (rfl:_=((1:Nat):Int))|exact (rfl:_=((2:Nat):Int))|exact (rfl:_=((3:Nat):Int))|exact (rfl:_=((4:Nat):Int))|exact (rfl:_=((5:Nat):Int))|exact (rfl:_=((6:Nat):Int))|exact (rfl:_=((7:Nat):Int))|exact (rfl:_=((8:Nat):Int))):x=k:=h
inductive PartsI (A:Nat→Option VP) (L:List Item):List (Nat×Operand)→List (Nat×List VP)→Prop
 | nil:PartsI A L [] []
 | cons {i:Nat} {x:Operand} {D:VP} {Bs:List VP} {l:List (Nat×Operand)} {m:List (Nat×List VP)} (hx:Ev A L x D) (hD:qd1 D Bs) (h:PartsI A L l m):PartsI A L ((i,x) :: l) ((i,Bs) :: m)
theorem PartsI.e {A:Nat→Option VP} {L:List Item} {l:List (Nat×Operand)} {m:List (Nat×List VP)} (h:PartsI A L l m):PartsE A L l m:=by
 induction h with
 | nil=>exact trivial
 | cons hx hD _ ih=>exact ⟨⟨rfl,_,hx,hD⟩,ih⟩
theorem partsT {A:Nat→Option VP} {L:List Item} {l:List (Nat×Operand)} {m:List (Nat×List VP)} (h:PartsI A L l m:=by first|exact PartsI.nil|exact (PartsI.cons (er rfl) qc6 PartsI.nil)|exact (PartsI.cons (er rfl) qc6 (PartsI.cons (er rfl) qc6 PartsI.nil))|exact (PartsI.cons (er rfl) qc6 (PartsI.cons (er rfl) qc6 (PartsI.cons (er rfl) qc6 PartsI.nil)))|exact (PartsI.cons (er rfl) qc6 (PartsI.cons (er rfl) qc6 (PartsI.cons (er rfl) qc6 (PartsI.cons (er rfl) qc6 PartsI.nil))))|exact (PartsI.cons (er rfl) qc6 (PartsI.cons (er rfl) qc6 (PartsI.cons (er rfl) qc6 (PartsI.cons (er rfl) qc6 (PartsI.cons (er rfl) qc6 PartsI.nil)))))|exact (PartsI.cons (er rfl) qc6 (PartsI.cons (er rfl) qc6 (PartsI.cons (er rfl) qc6 (PartsI.cons (er rfl) qc6 (PartsI.cons (er rfl) qc6 (PartsI.cons (er rfl) qc6 PartsI.nil))))))|exact (PartsI.cons (er rfl) qc6 (PartsI.cons (er rfl) qc6 (PartsI.cons (er rfl) qc6 (PartsI.cons (er rfl) qc6 (PartsI.cons (er rfl) qc6 (PartsI.cons (er rfl) qc6 (PartsI.cons (er rfl) qc6 PartsI.nil)))))))|exact (PartsI.cons (er rfl) qc6 (PartsI.cons (er rfl) qc6 (PartsI.cons (er rfl) qc6 (PartsI.cons (er rfl) qc6 (PartsI.cons (er rfl) qc6 (PartsI.cons (er rfl) qc6 (PartsI.cons (er rfl) qc6 (PartsI.cons (er rfl) qc6 PartsI.nil))))))))):PartsI A L l m:=h
theorem qtk {P:Program} {c:Ctx} {A:Nat→Option VP} {L:List Item} {d:Option Tmp} {ty:TypeId} {pos:String} {af:Array Edge} {g:Option (Nat×Bool)} {t:TypeId} {ps:Array (Nat×Operand)} {fs:List Field} {zs:List Value} {pl:List (Nat×Nat)} {qs:List (Nat×List VP)} {Rs0 Rs:List VP} (hu:P.underlying t=some (.struct fs.toArray)) (hz:(P.info? t).map (·.zero)=some (some (.agg zs.toArray))) (h1:(zs.all Value.oneCell')=true)
  (hpl:qi8 P fs=some pl) (hq:PartsI A L ps.toList qs) (hf:qlu (fun i=>pl[i]?) (zs.map Is) qs=some Rs0) (hR:Rs0=Rs):OpP P c ⟨d,.build t ps,ty,pos,af,g⟩ A L (IsAgg Rs):=qib hu hz h1 hpl hq.e hf hR
theorem opF {P:Program} {c:Ctx} {o:Oper} {A:Nat→Option VP} {L:List Item} {F:VP} (h:OpP P c o A L F:=by first|((with_reducible show OpP _ _ ⟨_,.move _,_,_,_,_⟩ _ _ _);exact qbb rfl)|((with_reducible show OpP _ _ ⟨_,.assign _,_,_,_,_⟩ _ _ _);exact qei rfl)|((with_reducible show OpP _ _ ⟨_,.extract _ _,_,_,_,_⟩ _ _ _);exact qj7 (er rfl) rfl)|((with_reducible show OpP _ _ ⟨_,.nilCheck _,_,_,_,_⟩ _ _ _);(first|exact qhb (er rfl)|exact qtf (er rfl)))|((with_reducible show OpP _ _ ⟨_,.fieldAddr _ _ _,_,_,_,_⟩ _ _ _);(first|exact qbe (er rfl) rfl rfl rfl offT|exact qa0 (er rfl) rfl rfl rfl offT qbm))|((with_reducible show OpP _ _ ⟨_,.load _ _,_,_,_,_⟩ _ _ _);(first|exact qbx (er rfl) rfl rfl rfl|exact qeg (er rfl) qbw rf rf rf|exact qbp (er rfl) qbw rf rf szT rf qbm|exact qb2 (er rfl) rfl rfl szT rf qbm))|((with_reducible show OpP _ _ ⟨_,.binOp .eql _ _ _ _,_,_,_,_⟩ _ _ _);(first|exact op_eql (er rfl) (er rfl)|exact qx0 (er rfl) rfl|exact op_beq rfl (er rfl) (er rfl)))|((with_reducible show OpP _ _ ⟨_,.binOp .neq _ _ _ _,_,_,_,_⟩ _ _ _);(first|exact op_neq (er rfl) (er rfl)|exact op_bne rfl (er rfl) (er rfl)))|((with_reducible show OpP _ _ ⟨_,.binOp .add _ _ _ _,_,_,_,_⟩ _ _ _);(first|exact qfh (op:=.add) qgp qgp (qot _ _ _)|exact qfh (op:=.add) qmq qmq (zet _ _ _)|exact qjd (er rfl) (er rfl) qil))|((with_reducible show OpP _ _ ⟨_,.binOp .lss _ _ _ _,_,_,_,_⟩ _ _ _);exact op_lss (er rfl) (er rfl))|((with_reducible show OpP _ _ ⟨_,.binOp .leq _ _ _ _,_,_,_,_⟩ _ _ _);exact op_leq (er rfl) (er rfl))|((with_reducible show OpP _ _ ⟨_,.binOp .gtr _ _ _ _,_,_,_,_⟩ _ _ _);exact op_gtr (er rfl) (er rfl))|((with_reducible show OpP _ _ ⟨_,.binOp .geq _ _ _ _,_,_,_,_⟩ _ _ _);exact op_geq (er rfl) (er rfl))|((with_reducible show OpP _ _ ⟨_,.pick _ _ _,_,_,_,_⟩ _ _ _);(first|exact qo7 (er rfl) rfl (fun h=>by first|exact SubL.rfl' | exact SubL.iteT (by first|(rw [h];rfl)|(simp_all;done)) SubL.rfl')|exact op_and (er rfl) rfl (fun h=>by first|exact SubL.rfl' | exact SubL.iteT (by first|(rw [h];rfl)|(simp_all;done)) SubL.rfl')|exact zct (er rfl) rfl rfl))|((with_reducible show OpP _ _ ⟨_,.unOp .not _ _,_,_,_,_⟩ _ _ _);exact op_not (er rfl))|((with_reducible show OpP _ _ ⟨_,.convert _ _ _,_,_,_,_⟩ _ _ _);exact qfg (er rfl) rfl rfl zam)|((with_reducible show OpP _ _ ⟨_,.call _,_,_,_,_⟩ _ _ _);(first|exact zcw (er rfl) rfl|exact qti (er rfl) rfl))|((with_reducible show OpP _ _ ⟨_,.binOp .sub _ _ _ _,_,_,_,_⟩ _ _ _);(first|exact qfh (op:=.sub) qgp qgp (zbo _ _ _)|exact qfh (op:=.sub) qmq qmq (zbp _ _ _)|exact qkm (er rfl) (er rfl) qil))|((with_reducible show OpP _ _ ⟨_,.binOp .mul _ _ _ _,_,_,_,_⟩ _ _ _);(first|exact qfh (op:=.mul) qgp qgp (zc6 _ _ _)|exact qfh (op:=.mul) qmq qmq (zc7 _ _ _)|exact qtg (er rfl) (er rfl) qil))|((with_reducible show OpP _ _ ⟨_,.binOp .quo _ _ _ _,_,_,_,_⟩ _ _ _);exact qjb (er rfl) (er rfl) (by omega) qil)|((with_reducible show OpP _ _ ⟨_,.binOp .rem _ _ _ _,_,_,_,_⟩ _ _ _);exact qln (er rfl) (er rfl) (by omega) rfl)|((with_reducible show OpP _ _ ⟨_,.binOp .and _ _ _ _,_,_,_,_⟩ _ _ _);(first|exact qeh (op:=.and) qgp qgp (by simp) (zer _ _)|exact qeh (op:=.and) qmq qmq (by simp) (zes _ _)))|((with_reducible show OpP _ _ ⟨_,.binOp .or _ _ _ _,_,_,_,_⟩ _ _ _);(first|exact qeh (op:=.or) qgp qgp (by simp) (zcq _ _)|exact qeh (op:=.or) qmq qmq (by simp) (or_u32 _ _)))|((with_reducible show OpP _ _ ⟨_,.binOp .xor _ _ _ _,_,_,_,_⟩ _ _ _);(first|exact qeh (op:=.xor) qgp qgp (by simp) (qvb _ _)|exact qeh (op:=.xor) qmq qmq (by simp) (za5 _ _)))|((with_reducible show OpP _ _ ⟨_,.binOp .andNot _ _ _ _,_,_,_,_⟩ _ _ _);exact qeh (op:=.andNot) qgp qgp (by simp) (qqa _ _))|((with_reducible show OpP _ _ ⟨_,.binOp _ _ _ _ _,_,_,_,_⟩ _ _ _);exact qeh (er rfl) (er rfl) (by simp) rfl)|((with_reducible show OpP _ _ ⟨_,.binOp .shl _ _ _ _,_,_,_,_⟩ _ _ _);(first|exact qed (k:=_) qgp (er rfl) (by first|omega|exact qbq _) qct|exact qgf (k:=_) qmq (er rfl) (by first|omega|exact qbq _) qct|exact qpt (er rfl) (er rfl) (by first|omega|exact qbq _) rfl))|((with_reducible show OpP _ _ ⟨_,.binOp .shr _ _ _ _,_,_,_,_⟩ _ _ _);(first|exact qhw (k:=_) qgp (er rfl) (by first|omega|exact qbq _) qct|exact qfs (k:=_) qmq (er rfl) (by first|omega|exact qbq _) qct|exact qxx (er rfl) (er rfl) (by first|omega|exact qbq _) rfl))|((with_reducible show OpP _ _ ⟨_,.unOp .neg _ _,_,_,_,_⟩ _ _ _);exact op_neg (er rfl) qil)|((with_reducible show OpP _ _ ⟨_,.unOp .xor _ _,_,_,_,_⟩ _ _ _);exact qx2 (er rfl) rfl)|((with_reducible show OpP _ _ ⟨_,.field _ _ _,_,_,_,_⟩ _ _ _);exact qpu (er rfl) rfl rfl rfl rfl rfl)|((with_reducible show OpP _ _ ⟨_,.build _ _,_,_,_,_⟩ _ _ _);exact qtk rfl rfl rfl rfl partsT rf qbm)|((with_reducible show OpP _ _ ⟨_,.indexAddr _ _ _,_,_,_,_⟩ _ _ _);first|exact qam (j:=_) (er rfl) (er rfl) rfl rfl rf asT|exact qal (er rfl) (er rfl) rfl szT offI (by decide))):OpP P c o A L F:=h
theorem opG {P:Program} {c:Ctx} {o:Oper} {A:Nat→Option VP} {L:List Item} {F:VP} (h:OpP P c o A L F:=by first|((with_reducible show OpP _ _ ⟨_,.move _,_,_,_,_⟩ _ _ _);(first|exact qxz (Ev.sub rfl (SubL.iteT (by first|assumption|(simp;done)|(simp;omega)|(simp_all;done)) SubL.rfl'))|exact qxz (er rfl)))|((with_reducible show OpP _ _ ⟨_,.assign _,_,_,_,_⟩ _ _ _);(first|exact qth (Ev.sub rfl (SubL.iteT (by first|assumption|(simp;done)|(simp;omega)|(simp_all;done)) SubL.rfl'))|exact qth (er rfl)))|((with_reducible show OpP _ _ ⟨_,.extract _ _,_,_,_,_⟩ _ _ _);exact qj7 evG rfl)|((with_reducible show OpP _ _ ⟨_,.nilCheck _,_,_,_,_⟩ _ _ _);(first|exact qhb evG|exact qtf evG))|((with_reducible show OpP _ _ ⟨_,.fieldAddr _ _ _,_,_,_,_⟩ _ _ _);(first|exact qbe evG rfl rfl rfl offT|exact qa0 evG rfl rfl rfl offT qbm))|((with_reducible show OpP _ _ ⟨_,.load _ _,_,_,_,_⟩ _ _ _);(first|exact qbx evG rfl rfl rfl|exact qeg evG qbw rf rf rf|exact qbp evG qbw rf rf szT rf qbm|exact qb2 evG rfl rfl szT rf qbm))|((with_reducible show OpP _ _ ⟨_,.binOp .eql _ _ _ _,_,_,_,_⟩ _ _ _);(first|exact op_eql evG evG|exact qx0 evG rfl|exact op_beq rfl evG evG))|((with_reducible show OpP _ _ ⟨_,.binOp .neq _ _ _ _,_,_,_,_⟩ _ _ _);(first|exact op_neq evG evG|exact op_bne rfl evG evG))|((with_reducible show OpP _ _ ⟨_,.binOp .add _ _ _ _,_,_,_,_⟩ _ _ _);(first|exact qfh (op:=.add) qi4 qi4 (qot _ _ _)|exact qfh (op:=.add) qi5 qi5 (zet _ _ _)|exact qjd evG evG qil))|((with_reducible show OpP _ _ ⟨_,.binOp .lss _ _ _ _,_,_,_,_⟩ _ _ _);exact op_lss evG evG)|((with_reducible show OpP _ _ ⟨_,.binOp .leq _ _ _ _,_,_,_,_⟩ _ _ _);exact op_leq evG evG)|((with_reducible show OpP _ _ ⟨_,.binOp .gtr _ _ _ _,_,_,_,_⟩ _ _ _);exact op_gtr evG evG)|((with_reducible show OpP _ _ ⟨_,.binOp .geq _ _ _ _,_,_,_,_⟩ _ _ _);exact op_geq evG evG)|((with_reducible show OpP _ _ ⟨_,.pick _ _ _,_,_,_,_⟩ _ _ _);(first|exact qo7 evG rfl (fun h=>by first|exact SubL.rfl' | exact SubL.iteT (by first|(rw [h];rfl)|(simp_all;done)) SubL.rfl')|exact op_and evG rfl (fun h=>by first|exact SubL.rfl' | exact SubL.iteT (by first|(rw [h];rfl)|(simp_all;done)) SubL.rfl')|exact zct evG rfl rfl))|((with_reducible show OpP _ _ ⟨_,.unOp .not _ _,_,_,_,_⟩ _ _ _);exact op_not evG)|((with_reducible show OpP _ _ ⟨_,.convert _ _ _,_,_,_,_⟩ _ _ _);exact qfg evG rfl rfl zam)|((with_reducible show OpP _ _ ⟨_,.call _,_,_,_,_⟩ _ _ _);(first|exact zcw evG rfl|exact qti evG rfl))|((with_reducible show OpP _ _ ⟨_,.binOp .sub _ _ _ _,_,_,_,_⟩ _ _ _);(first|exact qfh (op:=.sub) qi4 qi4 (zbo _ _ _)|exact qfh (op:=.sub) qi5 qi5 (zbp _ _ _)|exact qkm evG evG qil))|((with_reducible show OpP _ _ ⟨_,.binOp .mul _ _ _ _,_,_,_,_⟩ _ _ _);(first|exact qfh (op:=.mul) qi4 qi4 (zc6 _ _ _)|exact qfh (op:=.mul) qi5 qi5 (zc7 _ _ _)|exact qtg evG evG qil))|((with_reducible show OpP _ _ ⟨_,.binOp .quo _ _ _ _,_,_,_,_⟩ _ _ _);exact qjb evG evG (by omega) qil)|((with_reducible show OpP _ _ ⟨_,.binOp .rem _ _ _ _,_,_,_,_⟩ _ _ _);exact qln evG evG (by omega) rfl)|((with_reducible show OpP _ _ ⟨_,.binOp .and _ _ _ _,_,_,_,_⟩ _ _ _);(first|exact qeh (op:=.and) qi4 qi4 (by simp) (zer _ _)|exact qeh (op:=.and) qi5 qi5 (by simp) (zes _ _)))|((with_reducible show OpP _ _ ⟨_,.binOp .or _ _ _ _,_,_,_,_⟩ _ _ _);(first|exact qeh (op:=.or) qi4 qi4 (by simp) (zcq _ _)|exact qeh (op:=.or) qi5 qi5 (by simp) (or_u32 _ _)))|((with_reducible show OpP _ _ ⟨_,.binOp .xor _ _ _ _,_,_,_,_⟩ _ _ _);(first|exact qeh (op:=.xor) qi4 qi4 (by simp) (qvb _ _)|exact qeh (op:=.xor) qi5 qi5 (by simp) (za5 _ _)))|((with_reducible show OpP _ _ ⟨_,.binOp .andNot _ _ _ _,_,_,_,_⟩ _ _ _);exact qeh (op:=.andNot) qi4 qi4 (by simp) (qqa _ _))|((with_reducible show OpP _ _ ⟨_,.binOp _ _ _ _ _,_,_,_,_⟩ _ _ _);exact qeh evG evG (by simp) rfl)|((with_reducible show OpP _ _ ⟨_,.binOp .shl _ _ _ _,_,_,_,_⟩ _ _ _);(first|exact qed (k:=_) qi4 evG (by first|omega|exact qbq _) qct|exact qgf (k:=_) qi5 evG (by first|omega|exact qbq _) qct|exact qpt evG evG (by first|omega|exact qbq _) rfl))|((with_reducible show OpP _ _ ⟨_,.binOp .shr _ _ _ _,_,_,_,_⟩ _ _ _);(first|exact qhw (k:=_) qi4 evG (by first|omega|exact qbq _) qct|exact qfs (k:=_) qi5 evG (by first|omega|exact qbq _) qct|exact qxx evG evG (by first|omega|exact qbq _) rfl))|((with_reducible show OpP _ _ ⟨_,.unOp .neg _ _,_,_,_,_⟩ _ _ _);exact op_neg evG qil)|((with_reducible show OpP _ _ ⟨_,.unOp .xor _ _,_,_,_,_⟩ _ _ _);exact qx2 evG rfl)|((with_reducible show OpP _ _ ⟨_,.field _ _ _,_,_,_,_⟩ _ _ _);exact qpu evG rfl rfl rfl rfl rfl)|((with_reducible show OpP _ _ ⟨_,.build _ _,_,_,_,_⟩ _ _ _);exact qtk rfl rfl rfl rfl partsT rf qbm)|((with_reducible show OpP _ _ ⟨_,.indexAddr _ _ _,_,_,_,_⟩ _ _ _);first|exact qam (j:=_) evG evG rfl rfl rf asT|exact qal evG evG rfl szT offI (by decide))):OpP P c o A L F:=h
theorem s1F {A B:Prop} (f:A→B:=by first|((with_reducible show _→JL _ _ _ _ _ (⟨some _,.alloc _,_,_,_,none⟩ :: _) _ _);exact qwx rfl (qbl rfl qbm rfl))|((with_reducible show _→JL _ _ _ _ _ (⟨some _,.box _ _,_,_,_,none⟩ :: _) _ _);exact qwx rfl (op_box (er rfl) qc6))|((with_reducible show _→JL _ _ _ _ _ (⟨some _,_,_,_,_,none⟩ :: _) _ _);exact qap rfl (by exact opF))|((with_reducible show _→JL _ _ _ _ _ (⟨none,.store _ _ _,_,_,_,none⟩ :: _) _ _);exact qkl (qas (er rfl) (er rfl) qc6 qae qbm rf rf rf))|((with_reducible show _→JL _ _ _ _ _ [] _ _);exact JL_nil)|((with_reducible show _→JC _ _ _ (Code.seq _ _) _ _ _);exact qzk)|((with_reducible show _→JC _ _ _ (Code.region _ _ false) _ _ _);exact zfb)|((with_reducible show _→JC _ _ _ (Code.skip) _ _ _);exact zfa)|((with_reducible show _→JC _ _ _ (Code.block _ _) _ _ _);exact JC_block)|((with_reducible show _→JC _ _ _ (Code.exit _) _ _ _);exact JC_exit)|((with_reducible show _→JC _ _ _ (Code.ret) _ _ _);exact JC_ret)|((with_reducible show _→JQ _ _ _ _ (Exit.then _ _) .normal);exact qo1)|((with_reducible show _→JQ _ _ _ _ (Exit.then _ _) (.exit _));exact quw)|((with_reducible show _→JQ _ _ _ _ (Exit.then _ _) .ret);exact qww)|((with_reducible show _→JQ _ _ _ _ (Exit.inBlock _ _) .normal);exact JQ_block)|((with_reducible show _→JQ _ _ _ _ (Exit.inBlock _ _) .ret);exact qux)|((with_reducible show _→JQ _ _ _ _ (Exit.inBlock _ _) (.exit _));(first|exact qsn rfl|exact JQ_hit))|((with_reducible show _→JQ _ _ _ _ (bodyPost _ _ _) .normal);exact JQ_end)|((with_reducible show _→JL _ _ _ _ _ (⟨some _,_,_,_,_,some _⟩ :: _) _ _);first|exact qcp rfl rfl rfl (fun hg=>by (have hg0:=hg;(try simp at hg);exact opG))|exact JL_i rfl rfl rfl (fun hp hg=>by (have hpg:=Bool.and_eq_true_iff.2 ⟨hp,hg⟩;have hg0:=hg;(try simp at hg);exact opG)))|((with_reducible show _→JW _ _ _ _ _ _ _ _ (⟨some _,_,_,_,_,none⟩ :: _) _ _);exact qbh (by exact opF))|((with_reducible show _→JW _ _ _ _ _ _ _ _ (⟨some _,_,_,_,_,some _⟩ :: _) _ _);first|exact qd2 rfl rfl (fun hg=>by (have hg0:=hg;(try simp at hg);exact opG))|exact zax rfl rfl (fun hp hg=>by (have hpg:=Bool.and_eq_true_iff.2 ⟨hp,hg⟩;have hg0:=hg;(try simp at hg);exact opG)))):A→B:=f
theorem s1 {A B:Prop} (h:A) (f:A→B:=by exact s1F):B:=f h
structure Bx (A:Prop):Prop where
 out:A
theorem t2 {A B:Prop} (h:A) (f:Bx A→B:=by intro z;(iterate 2 refine s1 ?_);exact z.out):B:=f ⟨h⟩
theorem t3 {A B:Prop} (h:A) (f:Bx A→B:=by intro z;(iterate 3 refine s1 ?_);exact z.out):B:=f ⟨h⟩
theorem t4 {A B:Prop} (h:A) (f:Bx A→B:=by intro z;(iterate 4 refine s1 ?_);exact z.out):B:=f ⟨h⟩
theorem t5 {A B:Prop} (h:A) (f:Bx A→B:=by intro z;(iterate 5 refine s1 ?_);exact z.out):B:=f ⟨h⟩
theorem t6 {A B:Prop} (h:A) (f:Bx A→B:=by intro z;(iterate 6 refine s1 ?_);exact z.out):B:=f ⟨h⟩
theorem t7 {A B:Prop} (h:A) (f:Bx A→B:=by intro z;(iterate 7 refine s1 ?_);exact z.out):B:=f ⟨h⟩
theorem t8 {A B:Prop} (h:A) (f:Bx A→B:=by intro z;(iterate 8 refine s1 ?_);exact z.out):B:=f ⟨h⟩
theorem t9 {A B:Prop} (h:A) (f:Bx A→B:=by intro z;(iterate 9 refine s1 ?_);exact z.out):B:=f ⟨h⟩
theorem t10 {A B:Prop} (h:A) (f:Bx A→B:=by intro z;(iterate 10 refine s1 ?_);exact z.out):B:=f ⟨h⟩
theorem t11 {A B:Prop} (h:A) (f:Bx A→B:=by intro z;(iterate 11 refine s1 ?_);exact z.out):B:=f ⟨h⟩
theorem t12 {A B:Prop} (h:A) (f:Bx A→B:=by intro z;(iterate 12 refine s1 ?_);exact z.out):B:=f ⟨h⟩
theorem t13 {A B:Prop} (h:A) (f:Bx A→B:=by intro z;(iterate 13 refine s1 ?_);exact z.out):B:=f ⟨h⟩
theorem t14 {A B:Prop} (h:A) (f:Bx A→B:=by intro z;(iterate 14 refine s1 ?_);exact z.out):B:=f ⟨h⟩
theorem t15 {A B:Prop} (h:A) (f:Bx A→B:=by intro z;(iterate 15 refine s1 ?_);exact z.out):B:=f ⟨h⟩
theorem t16 {A B:Prop} (h:A) (f:Bx A→B:=by intro z;(iterate 16 refine s1 ?_);exact z.out):B:=f ⟨h⟩
theorem t17 {A B:Prop} (h:A) (f:Bx A→B:=by intro z;(iterate 17 refine s1 ?_);exact z.out):B:=f ⟨h⟩
theorem t18 {A B:Prop} (h:A) (f:Bx A→B:=by intro z;(iterate 18 refine s1 ?_);exact z.out):B:=f ⟨h⟩
theorem t19 {A B:Prop} (h:A) (f:Bx A→B:=by intro z;(iterate 19 refine s1 ?_);exact z.out):B:=f ⟨h⟩
theorem t20 {A B:Prop} (h:A) (f:Bx A→B:=by intro z;(iterate 20 refine s1 ?_);exact z.out):B:=f ⟨h⟩
theorem t21 {A B:Prop} (h:A) (f:Bx A→B:=by intro z;(iterate 21 refine s1 ?_);exact z.out):B:=f ⟨h⟩
theorem t22 {A B:Prop} (h:A) (f:Bx A→B:=by intro z;(iterate 22 refine s1 ?_);exact z.out):B:=f ⟨h⟩
theorem t23 {A B:Prop} (h:A) (f:Bx A→B:=by intro z;(iterate 23 refine s1 ?_);exact z.out):B:=f ⟨h⟩
theorem t24 {A B:Prop} (h:A) (f:Bx A→B:=by intro z;(iterate 24 refine s1 ?_);exact z.out):B:=f ⟨h⟩
theorem t25 {A B:Prop} (h:A) (f:Bx A→B:=by intro z;(iterate 25 refine s1 ?_);exact z.out):B:=f ⟨h⟩
theorem t28 {A B:Prop} (h:A) (f:Bx A→B:=by intro z;(iterate 28 refine s1 ?_);exact z.out):B:=f ⟨h⟩
theorem t29 {A B:Prop} (h:A) (f:Bx A→B:=by intro z;(iterate 29 refine s1 ?_);exact z.out):B:=f ⟨h⟩
theorem t30 {A B:Prop} (h:A) (f:Bx A→B:=by intro z;(iterate 30 refine s1 ?_);exact z.out):B:=f ⟨h⟩
theorem t31 {A B:Prop} (h:A) (f:Bx A→B:=by intro z;(iterate 31 refine s1 ?_);exact z.out):B:=f ⟨h⟩
theorem t32 {A B:Prop} (h:A) (f:Bx A→B:=by intro z;(iterate 32 refine s1 ?_);exact z.out):B:=f ⟨h⟩
theorem t33 {A B:Prop} (h:A) (f:Bx A→B:=by intro z;(iterate 33 refine s1 ?_);exact z.out):B:=f ⟨h⟩
theorem t36 {A B:Prop} (h:A) (f:Bx A→B:=by intro z;(iterate 36 refine s1 ?_);exact z.out):B:=f ⟨h⟩
theorem t37 {A B:Prop} (h:A) (f:Bx A→B:=by intro z;(iterate 37 refine s1 ?_);exact z.out):B:=f ⟨h⟩
theorem t40 {A B:Prop} (h:A) (f:Bx A→B:=by intro z;(iterate 40 refine s1 ?_);exact z.out):B:=f ⟨h⟩
theorem cN {P:Program} {c:Ctx} {N:Nat} {E:Env} {L:List Item} {Q:Exit→Go.Act→World→Prop} {x:Operand} {y z:Code} {b:Bool} (ht:b=true→JC P c N y E L Q) (hf:b=false→JC P c N z E L Q) (hx:evA (look E) x=some (Is (.bool b)):=by exact rfl):JC P c N (Code.cond x y z) E L Q:=zfc (Ev.rfl' hx) ht hf
theorem eT {P:Program} {E:Env} {L:List Item} {rs:List ResultVar} {Bs:List VP} (h:qqe P E L rs Bs:=by repeat (first|exact trivial|refine ⟨⟨_,_,_,_,rfl,qbw,rfl,.inr ⟨rfl,_,rfl,rfl,subT⟩⟩,?_⟩|refine ⟨⟨_,rfl,subT⟩,?_⟩)):qqe P E L rs Bs:=h
section
variable {P:Program} {c:Ctx} {A:Nat→Option VP} {L:List Item} {d:Option Tmp} {ty:TypeId} {pos:String} {af:Array Edge} {g:Option (Nat×Bool)}
@[reducible] def FnK (P:Program) (f:FuncId) (G:Item) (As:List VP) (R:VP):Prop:=Fn P f As [G] (fun _:Unit=>R) (fun _=>[])
theorem FnK.run {v:Value} {B:VP} {f:FuncId} {As:List VP} {r:Value} (h:FnK P f (fact v B) As (Is r)) (w:World) (vs:List Value) (hB:B.ok (phi w) v) (hv:Alls (phi w) As vs):Calls P f vs.toArray w fun e w'=>e = .returned r∧Below w.heap.size w w':=by
 refine (h (phi w) w vs hv ⟨fun _ _ _ h=>h,fun it hi=>?_,List.pairwise_singleton _ _⟩).mono ?_
 ·rw [List.mem_singleton] at hi;subst hi;exact ⟨hB,fun b hb=>by cases hb⟩
 ·rintro e w' ⟨i,v,φ',rfl,h1,h2⟩
  have h1':v=r:=h1
  subst h1'
  exact ⟨rfl,Kpt.below (by simpa [qb9,fact] using h2.kept)⟩
end
theorem qt0 (l:Int):FnP Tryz.prog 133 [Is (.int .i64 l)] (Is (.bool (qmk l))):=by
 refine FnP.enter func133 ntmps133 rfl rfl ?_
 intro c hX
 refine t17 ?_
 refine qay results133 rfl () (SubL.eq ?_) (List.nil_sublist _)
 rfl
theorem qkc (l:Int):FnP Tryz.prog 111 [Is (.int .i64 l)] (Is (.bool (qmk l))):=by
 refine FnP.enter func111 ntmps111 rfl rfl ?_
 intro c hX
 refine t17 ?_
 refine qay results111 rfl () (SubL.eq ?_) (List.nil_sublist _)
 rfl
theorem qjt (p:Pt):FnP Tryz.prog 84 [qks p] (Is (.bool (qc5 p))):=by
 refine FnP.enter func84 ntmps84 rfl rfl ?_
 intro c hX
 refine t3 ?_
 intro i1
 refine t7 ?_
 refine qap rfl (qad call133 (qt0 _) ⟨evS,trivial⟩) ?_
 refine t14 ?_
 refine qay results84 rfl () (SubL.eq ?_) (List.nil_sublist _)
 rfl
theorem qch (p:Pt):FnP Tryz.prog 65 [qks p] (Is (.bool (qc5 p))):=by
 refine FnP.enter func65 ntmps65 rfl rfl ?_
 intro c hX
 refine t3 ?_
 intro i1
 refine t7 ?_
 refine qap rfl (qad call111 (qkc _) ⟨evS,trivial⟩) ?_
 refine t14 ?_
 refine qay results65 rfl () (SubL.eq ?_) (List.nil_sublist _)
 rfl
theorem Pack_ok (p:Pt):FnP Tryz.prog 135 [qks p] (Is (.int .u32 (UV (qhu p)))):=by
 refine FnP.enter func135 ntmps135 rfl rfl ?_
 intro c hX
 refine t3 ?_
 intro i1
 refine t7 ?_
 refine qap rfl (qad call84 (qjt _) ⟨evS,trivial⟩) ?_
 refine t3 ?_
 refine cN ?_ ?_ <;> intro h1
 ·refine t7 ?_
  refine qay results135 rfl () (SubL.eq ?_) (List.nil_sublist _)
  rw [zcl (by simpa using h1)];rfl
 refine t7 ?_
 refine qap rfl (by exact qgf (k:=8) qmq (er rfl) (by omega) qct) ?_
 refine t8 ?_
 refine qay results135 rfl () (SubL.eq ?_) (List.nil_sublist _)
 rw [← pack_or (by simpa using h1)]
theorem qfw (p:Pt):FnP Tryz.prog 73 [qks p] (Is (.int .u32 (UV (qhu p)))):=by
 refine FnP.enter func73 ntmps73 rfl rfl ?_
 intro c hX
 refine t3 ?_
 intro i1
 refine t7 ?_
 refine qap rfl (qad call65 (qch _) ⟨evS,trivial⟩) ?_
 refine t3 ?_
 refine cN ?_ ?_ <;> intro h1
 ·refine t7 ?_
  refine qay results73 rfl () (SubL.eq ?_) (List.nil_sublist _)
  rw [zcl (by simpa using h1)];rfl
 refine t16 ?_
 refine qay results73 rfl () (SubL.eq ?_) (List.nil_sublist _)
 rw [← pack_add (by simpa using h1)];rfl
theorem zex (x:BitVec 32):FnP Tryz.prog 134 [Is (.int .u32 (UV x))] (qks (qd3 x)):=by
 refine FnP.enter func134 ntmps134 rfl rfl ?_
 intro c hX
 refine t3 ?_
 intro i2
 refine t8 ?_
 refine qap rfl (by exact qfs (k:=8) qmq (er rfl) (by omega) qct) ?_
 refine t6 ?_
 rw [qve]
 exact qan (Bs:=[qks ⟨UV (x&&&BitVec.ofInt 32 255),UV (x>>>8)⟩]) results134 eT () SubL.rfl' (List.nil_sublist _)
theorem qfk (x:BitVec 32):FnP Tryz.prog 68 [Is (.int .u32 (UV x))] (qks (qd3 x)):=by
 refine FnP.enter func68 ntmps68 rfl rfl ?_
 intro c hX
 refine t3 ?_
 intro i2
 refine t15 ?_
 rw [qzn]
 exact qan (Bs:=[qks ⟨IntKind.i64.wrap ((UV x).tmod 256),IntKind.i64.wrap (IntKind.u32.wrap ((UV x).tdiv 256))⟩]) results68 eT () SubL.rfl' (List.nil_sublist _)
section
variable {α:Type}
structure PI (a b:Nat) (xs ys:List α):Prop where
 len:ys.length=xs.length
 out:∀ i,i<a∨b≤i→ys[i]?=xs[i]?
 perm:ys.Perm xs
variable {a b:Nat} {xs ys zs:List α}
theorem PI.rfl':PI a b xs xs:=⟨rfl,fun _ _=>rfl,List.Perm.refl _⟩
theorem PI.tr (h:PI a b xs ys) (k:PI a b ys zs):PI a b xs zs:=⟨k.len.trans h.len,fun i hi=>(k.out i hi).trans (h.out i hi),k.perm.trans h.perm⟩
theorem PI.wide {a' b':Nat} (h:PI a b xs ys) (ha:a'≤a) (hb:b≤b'):PI a' b' xs ys:=⟨h.len,fun i hi=>h.out i (by omega),h.perm⟩
theorem PI.mid (h:PI a b xs ys) (hab:a≤b):((ys.take b).drop a).Perm ((xs.take b).drop a):=by
 have e1:ys.take a=xs.take a:=by
  apply List.ext_getElem?
  intro i
  rw [List.getElem?_take,List.getElem?_take]
  split
  ·exact h.out i (.inl (by assumption))
  ·rfl
 have e2:ys.drop b=xs.drop b:=by
  apply List.ext_getElem?
  intro i
  rw [List.getElem?_drop,List.getElem?_drop]
  exact h.out _ (.inr (by omega))
 have s:∀ l:List α,l=l.take a++((l.take b).drop a++l.drop b):=fun l=>by
  conv=>lhs;rw [← List.take_append_drop b l]
  rw [← List.append_assoc]
  congr 1
  conv=>lhs;rw [← List.take_append_drop a (l.take b)]
  rw [List.take_take,Nat.min_eq_left hab]
 have hp:=h.perm
 rw [s ys,s xs,e1,e2] at hp
 exact (List.perm_append_right_iff _).1 ((List.perm_append_left_iff _).1 hp)
theorem PI.mem (h:PI a b xs ys) {p:Nat} {y:α} (h1:a≤p) (h2:p<b) (hy:ys[p]?=some y):∃ q,a≤q∧q<b∧xs[q]?=some y:=by
 have hm:y∈(ys.take b).drop a:=by
  refine List.mem_of_getElem? (i:=p-a) ?_
  rw [List.getElem?_drop,List.getElem?_take,if_pos (by omega),show a+(p-a)=p by omega];exact hy
 have hm2:=(h.mid (by omega)).mem_iff.1 hm
 obtain ⟨i,hi⟩:=List.getElem?_of_mem hm2
 rw [List.getElem?_drop,List.getElem?_take] at hi
 split at hi
 ·exact ⟨a+i,by omega,by assumption,hi⟩
 ·cases hi
theorem qw7 {i j:Nat} {x y:α} (hx:xs[i]?=some x) (hy:xs[j]?=some y) (k:Nat):((xs.set i y).set j x)[k]?=if k=j then some x else if k=i then some y else xs[k]?:=by
 have hi:=(List.getElem?_eq_some_iff.1 hx).1
 have hj:=(List.getElem?_eq_some_iff.1 hy).1
 rw [List.getElem?_set,List.getElem?_set]
 by_cases h1:j=k
 ·subst h1;simp [hj]
 ·rw [if_neg h1,if_neg (Ne.symm h1)]
  by_cases h2:i=k
  ·subst h2;simp [hi]
  ·rw [if_neg h2,if_neg (Ne.symm h2)]
theorem sw_PI {i j:Nat} {x y:α} (hx:xs[i]?=some x) (hy:xs[j]?=some y) (hi:a≤i∧i<b) (hj:a≤j∧j<b):PI a b xs ((xs.set i y).set j x):=by
 have li:=(List.getElem?_eq_some_iff.1 hx).1
 have lj:=(List.getElem?_eq_some_iff.1 hy).1
 refine ⟨by simp,fun k hk=>?_,?_⟩
 ·rw [qw7 hx hy,if_neg (by omega),if_neg (by omega)]
 ·have hx':xs[i]=x:=(List.getElem?_eq_some_iff.1 hx).2
  have hy':xs[j]=y:=(List.getElem?_eq_some_iff.1 hy).2
  have:=List.set_set_perm li lj
  rw [hx',hy'] at this
  exact this
variable {key:α→Int}
def Srt (key:α→Int) (a b:Nat) (xs:List α):Prop:=∀ i j x y,a≤i→i<j→j<b→xs[i]?=some x→xs[j]?=some y→key x≤key y
theorem Srt.sub {a' b':Nat} (h:Srt key a b xs) (ha:a≤a') (hb:b'≤b):Srt key a' b' xs:=fun i j x y h1 h2 h3=>h i j x y (by omega) h2 (by omega)
theorem Srt.one (h:b≤a+1):Srt key a b xs:=fun i j x y h1 h2 h3=>by omega
theorem Srt.same (h:Srt key a b xs) (he:∀ i,a≤i→i<b→ys[i]?=xs[i]?):Srt key a b ys:=fun i j x y h1 h2 h3 hx hy =>
 h i j x y h1 h2 h3 (by rw [← he i h1 (by omega)];exact hx) (by rw [← he j (by omega) h3];exact hy)
theorem Srt.le (h:Srt key a b xs) {i j:Nat} {x y:α} (h1:a≤i) (h2:i≤j) (h3:j<b) (hx:xs[i]?=some x) (hy:xs[j]?=some y):key x≤key y:=by
 rcases Nat.lt_or_ge i j with hl|hl
 ·exact h i j x y h1 hl h3 hx hy
 ·have:i=j:=by omega
  subst this
  rw [hx] at hy;cases hy;exact Int.le_refl _
structure Flt (key:α→Int) (a i j:Nat) (zs:List α):Prop where
 rest:∀ p q x y,a≤p→p<q→q≤i→p≠j→q≠j→zs[p]?=some x→zs[q]?=some y→key x≤key y
 up:∀ q x y,j<q→q≤i→zs[j]?=some x→zs[q]?=some y→key x≤key y
theorem Flt.start {i:Nat} (h:Srt key a i zs):Flt key a i i zs:=⟨fun p q x y h1 h2 h3 h4 h5 hx hy=>h p q x y h1 h2 (by omega) hx hy,fun q x y h1 h2=>by omega⟩
theorem Flt.step {i j:Nat} {x y:α} (h:Flt key a i j zs) (hj:a<j) (hji:j≤i) (hx:zs[j]?=some x) (hy:zs[j-1]?=some y) (hlt:key x<key y):Flt key a i (j-1) ((zs.set j y).set (j-1) x):=by
 have hg:=qw7 hx hy
 refine ⟨fun p q u v h1 h2 h3 h4 h5 hu hv=>?_,fun q u v h1 h2 hu hv=>?_⟩
 ·rw [hg] at hu hv
  rw [if_neg h4] at hu
  rw [if_neg h5] at hv
  by_cases hp:p=j
  ·rw [if_pos hp] at hu;cases hu
   rw [if_neg (by omega)] at hv
   exact h.rest (j-1) q y v (by omega) (by omega) h3 (by omega) (by omega) hy hv
  ·rw [if_neg hp] at hu
   by_cases hq:q=j
   ·rw [if_pos hq] at hv;cases hv
    exact h.rest p (j-1) u y h1 (by omega) (by omega) hp (by omega) hu hy
   ·rw [if_neg hq] at hv
    exact h.rest p q u v h1 h2 h3 hp hq hu hv
 ·rw [hg] at hu hv
  rw [if_pos rfl] at hu;cases hu
  rw [if_neg (by omega)] at hv
  by_cases hq:q=j
  ·rw [if_pos hq] at hv;cases hv;omega
  ·rw [if_neg hq] at hv
   exact h.up q x v (by omega) h2 hx hv
theorem Flt.done {i j:Nat} (h:Flt key a i j zs) (hji:j≤i) (he:j=a∨(a<j∧∀ x y,zs[j]?=some x→zs[j-1]?=some y→key y≤key x)):Srt key a (i+1) zs:=by
 intro p q u v h1 h2 h3 hu hv
 by_cases hp:p=j
 ·subst hp;exact h.up q u v h2 (by omega) hu hv
 ·by_cases hq:q=j
  ·subst hq
   rcases he with he|⟨hlt,he⟩
   ·omega
   ·have hl:=(List.getElem?_eq_some_iff.1 hv).1
    obtain ⟨y,hy⟩:∃ y,zs[q-1]?=some y:=⟨zs[q-1],List.getElem?_eq_getElem (by omega)⟩
    have h4:=he v y hv hy
    by_cases hpq:p=q-1
    ·subst hpq;rw [hu] at hy;cases hy;exact h4
    ·exact Int.le_trans (h.rest p (q-1) u y h1 (by omega) (by omega) hp (by omega) hu hy) h4
  ·exact h.rest p q u v h1 h2 (by omega) hp hq hu hv
end
section
variable {α:Type} {key:α→Int} {a m b st mid en:Nat} {xs ys zs:List α}
def Crs (key:α→Int) (a mid b:Nat) (xs:List α):Prop:=∀ p q x y,a≤p→p<mid→mid≤q→q<b→xs[p]?=some x→xs[q]?=some y→key x≤key y
theorem Crs.left (h:Crs key a mid b xs) (hp:PI a mid xs ys):Crs key a mid b ys:=fun p q x y e1 e2 e3 e4 hx hy=>by
 obtain ⟨p',f1,f2,f3⟩:=hp.mem e1 e2 hx
 exact h p' q x y f1 f2 e3 e4 f3 (by rw [← hp.out q (.inr e3)];exact hy)
theorem Crs.right (h:Crs key a mid b xs) (hp:PI mid b xs ys):Crs key a mid b ys:=fun p q x y e1 e2 e3 e4 hx hy=>by
 obtain ⟨q',f1,f2,f3⟩:=hp.mem e3 e4 hy
 exact h p q' x y e1 e2 f1 f2 (by rw [← hp.out p (.inl e2)];exact hx) f3
structure Rgt (key:α→Int) (a b i k:Nat) (x:α) (zs:List α):Prop where
 at_:zs[k]?=some x
 rest:∀ p q u v,a≤p→p<q→q<b→p≠k→q≠k→zs[p]?=some u→zs[q]?=some v→key u≤key v
 lo:∀ p u,a≤p→p<i→p≠k→zs[p]?=some u→key u≤key x
 hi:∀ p u,i≤p→p<b→zs[p]?=some u→key x≤key u
theorem Rgt.step {i k:Nat} {x y:α} (h:Rgt key a b i k x zs) (h1:a≤k) (h2:k+1<i) (h3:i≤b) (hy:zs[k+1]?=some y):Rgt key a b i (k+1) x ((zs.set k y).set (k+1) x):=by
 have hg:=qw7 h.at_ hy
 refine ⟨by rw [hg,if_pos rfl],fun p q u v f1 f2 f3 f4 f5 hu hv=>?_,fun p u f1 f2 f3 hu=>?_,fun p u f1 f2 hu=>?_⟩
 ·rw [hg,if_neg f4] at hu
  rw [hg,if_neg f5] at hv
  by_cases hp:p=k
  ·rw [if_pos hp] at hu;cases hu
   rw [if_neg (by omega)] at hv
   exact h.rest (k+1) q y v (by omega) (by omega) f3 (by omega) (by omega) hy hv
  ·rw [if_neg hp] at hu
   by_cases hq:q=k
   ·rw [if_pos hq] at hv;cases hv
    exact h.rest p (k+1) u y f1 (by omega) (by omega) hp (by omega) hu hy
   ·rw [if_neg hq] at hv
    exact h.rest p q u v f1 f2 f3 hp hq hu hv
 ·rw [hg,if_neg f3] at hu
  by_cases hp:p=k
  ·rw [if_pos hp] at hu;cases hu
   exact h.lo (k+1) y (by omega) h2 (by omega) hy
  ·rw [if_neg hp] at hu
   exact h.lo p u f1 f2 hp hu
 ·rw [hg,if_neg (by omega),if_neg (by omega)] at hu
  exact h.hi p u f1 f2 hu
theorem Rgt.done {i k:Nat} {x:α} (h:Rgt key a b i k x zs) (hk:k+1=i):Srt key a b zs:=fun p q u v f1 f2 f3 hu hv=>by
 by_cases hp:p=k
 ·subst hp;rw [h.at_] at hu;cases hu
  exact h.hi q v (by omega) f3 hv
 ·by_cases hq:q=k
  ·subst hq;rw [h.at_] at hv;cases hv
   exact h.lo p u f1 (by omega) hp hu
  ·exact h.rest p q u v f1 f2 f3 hp hq hu hv
structure Lft (key:α→Int) (a b i k:Nat) (x:α) (zs:List α):Prop where
 at_:zs[k]?=some x
 rest:∀ p q u v,a≤p→p<q→q<b→p≠k→q≠k→zs[p]?=some u→zs[q]?=some v→key u≤key v
 lo:∀ p u,a≤p→p<i→zs[p]?=some u→key u≤key x
 hi:∀ p u,i≤p→p<b→p≠k→zs[p]?=some u→key x≤key u
theorem Lft.step {i k:Nat} {x y:α} (h:Lft key a b i k x zs) (h0:a≤i) (h1:i<k) (h2:k<b) (hy:zs[k-1]?=some y):Lft key a b i (k-1) x ((zs.set k y).set (k-1) x):=by
 have hg:=qw7 h.at_ hy
 refine ⟨by rw [hg,if_pos rfl],fun p q u v f1 f2 f3 f4 f5 hu hv=>?_,fun p u f1 f2 hu=>?_,fun p u f1 f2 f3 hu=>?_⟩
 ·rw [hg,if_neg f4] at hu
  rw [hg,if_neg f5] at hv
  by_cases hp:p=k
  ·rw [if_pos hp] at hu;cases hu
   rw [if_neg (by omega)] at hv
   exact h.rest (k-1) q y v (by omega) (by omega) f3 (by omega) (by omega) hy hv
  ·rw [if_neg hp] at hu
   by_cases hq:q=k
   ·rw [if_pos hq] at hv;cases hv
    exact h.rest p (k-1) u y f1 (by omega) (by omega) hp (by omega) hu hy
   ·rw [if_neg hq] at hv
    exact h.rest p q u v f1 f2 f3 hp hq hu hv
 ·rw [hg,if_neg (by omega),if_neg (by omega)] at hu
  exact h.lo p u f1 f2 hu
 ·rw [hg,if_neg f3] at hu
  by_cases hp:p=k
  ·rw [if_pos hp] at hu;cases hu
   exact h.hi (k-1) y (by omega) (by omega) (by omega) hy
  ·rw [if_neg hp] at hu
   exact h.hi p u f1 f2 hp hu
theorem Lft.done {i:Nat} {x:α} (h:Lft key a b i i x zs):Srt key a b zs:=fun p q u v f1 f2 f3 hu hv=>by
 by_cases hp:p=i
 ·subst hp;rw [h.at_] at hu;cases hu
  exact h.hi q v (by omega) f3 (by omega) hv
 ·by_cases hq:q=i
  ·subst hq;rw [h.at_] at hv;cases hv
   exact h.lo p u f1 f2 hu
  ·exact h.rest p q u v f1 f2 f3 hp hq hu hv
def Blks (key:α→Int) (s n:Nat) (xs:List α):Prop:=∀ k,Srt key (k*s) (min ((k+1)*s) n) xs
theorem Blks.done {s n:Nat} (h:Blks key s n xs) (hs:n≤s):Srt key 0 n xs:=by
 have:=h 0
 rw [Nat.zero_mul,Nat.zero_add,Nat.one_mul,Nat.min_eq_right hs] at this
 exact this
end
section
variable {α:Type} {key:α→Int}
theorem zbs {xs:List α} (h:Srt key 0 xs.length xs) (hd:(xs.map key).Nodup):xs.Pairwise (fun x y=>key x<key y):=by
 rw [List.pairwise_iff_getElem]
 intro i j hi hj hij
 have h1:=h i j xs[i] xs[j] (Nat.zero_le _) hij hj (List.getElem?_eq_getElem hi) (List.getElem?_eq_getElem hj)
 have h2:key xs[i]≠key xs[j]:=fun e=>by
  have h3:=(List.getElem_inj (i:=i) (j:=j) (h₀:=by simpa using hi) (h₁:=by simpa using hj) hd).1 (by simpa using e)
  omega
 omega
end
end Go.Proofs.YtghkkdjbaehboaaGreat
