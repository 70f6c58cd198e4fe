/- Walks of functions and plain laws, laid together. Own work. -/
import Derived.Below
import Derived.Deep.Draws
import Derived.ChangeKeysEq
import Derived.ProofKit
import Derived.Deep.Slices
import Derived.OpenShut
import Derived.Test.YteafmggidjjdgaaGreatDoorK3
namespace Go.Proofs.YteafmggidjjdgaaGreatDoor
open Go.RowKit Tryz
set_option linter.unusedVariables false
set_option linter.unusedSimpArgs false
set_option maxRecDepth 100000
set_option maxHeartbeats 4000000
theorem subT {L:List Item} {A B:VP} (h:SubL L A B:=by (repeat' (first|exact SubL.rfl' | exact SubL.nil|exact SubL.top|exact SubL.fresh|exact trivial|refine SubL.agg ?_|refine SubL.tup ?_|exact SubL.fact (by repeat (first|exact List.Mem.head _|apply List.Mem.tail))|refine SubL.row rf rf ?_|refine SubL.lit rfl ?_|refine SubL.iteT (by first|assumption|(simp;done)|(simp;omega)|(simp_all;done)) ?_|exact SubL.eq (congrArg Is (qc3 (by first|decide|omega)))|exact SubL.eq (congrArg Is (qc7 (by first|decide|omega)))|refine ⟨?_,?_⟩))):SubL L A B:=h
theorem qih {L:List Item} {A B:List VP} (h:SubLs L A B:=by (repeat' (first|exact SubL.rfl' | exact SubL.nil|exact SubL.top|exact SubL.fresh|exact trivial|refine SubL.agg ?_|refine SubL.tup ?_|exact SubL.fact (by repeat (first|exact List.Mem.head _|apply List.Mem.tail))|refine SubL.row rf rf ?_|refine SubL.lit rfl ?_|refine SubL.iteT (by first|assumption|(simp;done)|(simp;omega)|(simp_all;done)) ?_|exact SubL.eq (congrArg Is (qc3 (by first|decide|omega)))|exact SubL.eq (congrArg Is (qc7 (by first|decide|omega)))|refine ⟨?_,?_⟩))):SubLs L A B:=h
theorem zc3 {L:List Item} {A B:List VP} (h:SubLs L A B:=by (repeat' (first|exact SubL.rfl' | exact trivial|exact SubL.eq (congrArg Is (qc3 (by first|decide|omega)))|exact SubL.eq (congrArg Is (qc7 (by first|decide|omega)))|refine ⟨?_,?_⟩))):SubLs L A B:=h
theorem evS {A:Nat->Option VP} {L:List Item} {x:Operand} {B:VP} (h:Ev A L x B:=by (first|exact er rfl|exact Ev.sub rfl (by (repeat' (first|exact SubL.rfl' | exact SubL.nil|exact SubL.top|exact SubL.fresh|exact trivial|refine SubL.agg ?_|refine SubL.tup ?_|exact SubL.fact (by repeat (first|exact List.Mem.head _|apply List.Mem.tail))|refine SubL.row rf rf ?_|refine SubL.lit rfl ?_|refine SubL.iteT (by first|assumption|(simp;done)|(simp;omega)|(simp_all;done)) ?_|exact SubL.eq (congrArg Is (qc3 (by first|decide|omega)))|exact SubL.eq (congrArg Is (qc7 (by first|decide|omega)))|refine ⟨?_,?_⟩))))):Ev A L x B:=h
theorem evG {A:Nat->Option VP} {L:List Item} {x:Operand} {B:VP} (h:Ev A L x B:=by (first|exact er rfl|exact Ev.sub rfl (SubL.iteT (by first|assumption|(simp;done)|(simp;omega)|(simp_all;done)) SubL.rfl'))):Ev A L x B:=h
theorem qhh {A:Nat->Option VP} {L:List Item} {x:Operand} {B:VP} (h:Ev A L x B:=by (first|exact er rfl|exact Ev.sub rfl (SubL.eq (congrArg Is (qc3 (by first|decide|omega)))))):Ev A L x B:=h
theorem qn0 {A:Nat->Option VP} {L:List Item} {x:Operand} {B:VP} (h:Ev A L x B:=by (first|exact er rfl|exact Ev.sub rfl (SubL.eq (congrArg Is (qc7 (by first|decide|omega)))))):Ev A L x B:=h
theorem qjv {A:Nat->Option VP} {L:List Item} {x:Operand} {B:VP} (h:Ev A L x B:=by (first|exact er rfl|exact Ev.sub rfl (SubL.iteT (by first|assumption|(simp;done)|(simp;omega)|(simp_all;done)) SubL.rfl')|exact Ev.sub rfl (SubL.eq (congrArg Is (qc3 (by first|decide|omega))))|exact Ev.sub rfl (SubL.iteT (by first|assumption|(simp;done)|(simp;omega)|(simp_all;done)) (SubL.eq (congrArg Is (qc3 (by first|decide|omega))))))):Ev A L x B:=h
theorem qlc {A:Nat->Option VP} {L:List Item} {x:Operand} {B:VP} (h:Ev A L x B:=by (first|exact er rfl|exact Ev.sub rfl (SubL.iteT (by first|assumption|(simp;done)|(simp;omega)|(simp_all;done)) SubL.rfl')|exact Ev.sub rfl (SubL.eq (congrArg Is (qc7 (by first|decide|omega))))|exact Ev.sub rfl (SubL.iteT (by first|assumption|(simp;done)|(simp;omega)|(simp_all;done)) (SubL.eq (congrArg Is (qc7 (by first|decide|omega))))))):Ev A L x B:=h
theorem qba {a:Item} {l:List Item} (h:a∈l:=by (repeat (first|exact List.Mem.head _|apply List.Mem.tail))):a∈l:=h
theorem qaf {L L':List Item} {a b:Item} (h:Repl L a b L':=by (repeat (first|exact Repl.head _ _ _|apply Repl.tail))):Repl L a b L':=h
theorem qa5 {A:VP} {As:List VP} (h:qde A As:=by (first|exact qp8|exact qth rfl|exact qtg|exact qp6|exact qp7 rfl)):qde A As:=h
theorem qjq {k:IntKind} {n r:Int} (h:k.wrap n=r:=by (first|exact qqq om|exact wU64 om|exact wU32 om|rfl)):k.wrap n=r:=h
theorem convT {k:IntKind} {n r:Int} (h:k.wrap n=r:=by (first|with_reducible exact zcu _|with_reducible exact zcx _|with_reducible exact to_u8_8 _|with_reducible exact to_u64_8 _|with_reducible exact zcv _|with_reducible exact to_u8_64 _|with_reducible exact zcw _|with_reducible exact to_i64_8 _|with_reducible exact zcz _|exact qqq (by first|omega|assumption)|exact wU64 om|exact wU32 om|with_reducible exact zcy _|with_reducible exact qkp _|with_reducible exact zas _|with_reducible exact zct _|rfl)):k.wrap n=r:=h
theorem qe1 {L L':List Item} (h:LendL L L':=by (repeat (first|with_reducible exact LendL.nil|with_reducible apply LendL.buf|with_reducible apply LendL.blk|with_reducible apply LendL.keep))):LendL L L':=h
theorem qla {R:VP} (h:qnd R:=by (repeat (first|with_reducible exact qcp|exact trivial|with_reducible refine pure_tup ?_|with_reducible refine pure_agg ?_|(with_reducible refine pure_ex (fun _=>?_))|refine ⟨?_,?_⟩))):qnd R:=h
theorem qa8 {L:List Item} {E E':Env} (h:ESub L E E':=by ((repeat (refine ⟨⟨_,rfl,(by (repeat' (first|exact SubL.rfl' | exact SubL.nil|exact SubL.top|exact SubL.fresh|exact trivial|refine SubL.agg ?_|refine SubL.tup ?_|exact SubL.fact (by repeat (first|exact List.Mem.head _|apply List.Mem.tail))|refine SubL.row rf rf ?_|refine SubL.lit rfl ?_|refine SubL.iteT (by first|assumption|(simp;done)|(simp;omega)|(simp_all;done)) ?_|exact SubL.eq (congrArg Is (qc3 (by first|decide|omega)))|exact SubL.eq (congrArg Is (qc7 (by first|decide|omega)))|refine ⟨?_,?_⟩)))⟩,?_⟩));exact trivial)):ESub L E E':=h
theorem qab {L M:List Item} (h:SubP M L:=by (repeat (first|exact SubP.nil _|refine SubP.cons (by repeat (first|exact Drop1.here _ _|apply Drop1.next)) ?_))):SubP M L:=h
theorem qcn {p:Prop} (h:p:=by (first|omega|(simp;done)|(simp;omega))):p:=h
theorem qdh {p:Prop} (h:p:=by (first|rfl|assumption|omega)):p:=h
section
variable {P:Program} {c:Ctx} {A:Nat->Option VP} {L:List Item} {d:Option Tmp} {ty:TypeId} {pos:String} {af:Array Edge} {g:Option (Nat×Bool)}
theorem zdw {φ:Fz} {As:List VP} {vs:List Value} {t:TypeId} {D:TypeDesc} {o:Nat} {B:VP} {w:World} (h:Alls φ As vs) (hu:P.underlying t=some D) (hD:qqs D=false) (hB:As[o]?=some B):∃ v,(part t vs.toArray o).run P w = .ok v w∧B.ok φ v:=by
 obtain ⟨v,h3,h4⟩:=zah h hB;exact ⟨v,by simp only [part,Sem.run_bind,qf2 hu,hD,Result.andThen_ok,h3];rfl,h4⟩
theorem qui {φ:Fz} {As Rs:List VP} {vs:List Value} {t:TypeId} {D:TypeDesc} {o n:Nat} {w:World} (h:Alls φ As vs) (h1:ones vs) (hu:P.underlying t=some D) (hD:qqs D=true) (hn:(P.info? t).map (·.size)=some n) (hR:(As.drop o).take n=Rs) :
  ∃ v,(part t vs.toArray o).run P w = .ok v w∧(IsAgg Rs).ok φ v:=by
 refine ⟨.agg ((vs.drop o).take n).toArray,?_,(vs.drop o).take n,rfl,?_,fun u hu=>h1 u (List.mem_of_mem_drop (List.mem_of_mem_take hu))⟩
 ·simp only [part,Sem.run_bind,qf2 hu,hD,Result.andThen_ok,if_true,qbd hn,Sem.run_pure]
  congr 2
  apply Array.ext'
  simp
 ·rw [<- hR];exact (h.drop o).take n
theorem qrp {s:TypeId} {x:Operand} {i:Nat} {fs:Array Field} {f:Field} {As:List VP} {B:VP} {D:TypeDesc} (hx:Ev A L x (IsAgg As)) (hu:P.underlying s=some (.struct fs)) (hf:fs[i]?=some f) (hD:P.underlying f.type=some D) (hd:qqs D=false) (hB:As[f.offset]?=some B) :
  OpP P c ⟨d,.field s x i,ty,pos,af,g⟩ A L B:=
 opp fun φ a w hm he=>by
  obtain ⟨vs,h1,h2,h3⟩:(IsAgg As).ok φ (a.eval x):=he x (by simp [Op.operands]) _ hx;obtain ⟨v,h4,h5⟩:=zdw (w:=w) h2 hD hd hB;refine ⟨v,?_,h5⟩;simp only [execOp,h1];refine qcd ?_;simp only [Instr.field,asAgg,Sem.run_bind,Sem.run_pure,run_underlying hu,Result.andThen_ok,hf];exact h4
theorem qur {t e:TypeId} {x y:Operand} {As Rs:List VP} {len sz k:Nat} {j:Int} {q:IntKind} {D:TypeDesc} (hx:Ev A L x (IsAgg As)) (hy:Ev A L y (Is (.int q j))) (hu:P.underlying t=some (.array len e)) (hD:P.underlying e=some D) (hd:qqs D=true) (hs:(P.info? e).map (·.size)=some sz) (hj:j=k) (hk:k<len) (hR:(As.drop (k*sz)).take sz=Rs) :
  OpP P c ⟨d,.index t x y,ty,pos,af,g⟩ A L (IsAgg Rs):=
 opp fun φ a w hm he=>by
  obtain ⟨vs,h1,h2,h3⟩:(IsAgg As).ok φ (a.eval x):=he x (by simp [Op.operands]) _ hx;have h6:a.eval y = .int q j:=he y (by simp [Op.operands]) _ hy;obtain ⟨v,h4,h5⟩:=qui (w:=w) h2 h3 hD hd hs hR;refine ⟨v,?_,h5⟩;have h7:(0:Int)<=j∧j<(len:Int):=om;have h8:j.toNat=k:=om;simp only [execOp,h1,h6];refine qcd ?_;simp only [Instr.index,asIntOf,Sem.run_bind,Sem.run_pure,Result.andThen_ok,run_underlying hu,h7,and_self,if_true,qbd hs,h8];exact h4
end
def SlN (w:World) (v:Value) (s n:Nat) (xs:List Value):Prop:=
 xs.length=n*s∧((∃ a c,v = .slice a 0 c∧n=0) ∨
  ∃ b o c,v = .slice (some ⟨b,o,none⟩) n c∧n<=c∧c<=maxLen∧b<w.heap.size∧∀ i u,xs[i]?=some u->w.cell? ⟨b,o+i,none⟩=some u)
def Sl (w:World) (v:Value) (xs:List Value):Prop:=SlN w v 1 xs.length xs
theorem SlN.below {w w':World} {v:Value} {s n:Nat} {xs:List Value} (h:SlN w v s n xs) {B:Nat} (hb:Below B w w') (hB:w.heap.size<=B):SlN w' v s n xs:=by
 obtain ⟨h1,h2⟩:=h;refine ⟨h1,?_⟩;rcases h2 with h2|⟨b,o,c,e1,e2,e3,e4,e5⟩
 ·exact .inl h2
 ·refine .inr ⟨b,o,c,e1,e2,e3,Nat.lt_of_lt_of_le e4 hb.size,fun i u hu=>?_⟩;rw [hb.cell (p:=⟨b,o+i,none⟩) (by show b<B;omega)];exact e5 i u hu
theorem Sl.below {w w':World} {v:Value} {xs:List Value} (h:Sl w v xs) (hb:Below w.heap.size w w'):Sl w' v xs:=SlN.below h hb (Nat.le_refl _)
theorem Sl.cases {w:World} {v:Value} {xs:List Value} (h:Sl w v xs) :
  (∃ a c,v = .slice a 0 c∧xs=[])∨∃ b o c,v = .slice (some ⟨b,o,none⟩) xs.length c∧xs.length<=c∧c<=maxLen∧b<w.heap.size∧∀ i u,xs[i]?=some u->w.cell? ⟨b,o+i,none⟩=some u:=by
 rcases h.2 with ⟨a,c,e1,e2⟩|h2
 ·exact .inl ⟨a,c,e1,List.eq_nil_of_length_eq_zero e2⟩
 ·exact .inr h2
theorem Sl.nil (w:World):Sl w (.slice none 0 0) []:=⟨rfl,.inl ⟨_,_,rfl,rfl⟩⟩
def Blk (w:World) (b:Nat) (t:TypeId) (cs:Array Value):Prop:=w.heap[b]?=some (.cells cs t (0,0))
theorem Blk.lt {w:World} {b:Nat} {t:TypeId} {cs:Array Value} (h:Blk w b t cs):b<w.heap.size:=by
 rcases Nat.lt_or_ge b w.heap.size with hl|hl
 ·exact hl
 ·unfold Blk at h;rw [Array.getElem?_eq_none hl] at h;cases h
theorem Blk.cell {w:World} {b:Nat} {t:TypeId} {cs:Array Value} (h:Blk w b t cs) (i:Nat):w.cell? ⟨b,i,none⟩=cs[i]?:=cell_of_row w b i cs t (0,0) h
theorem Blk.frozen {w:World} {b:Nat} {t:TypeId} {cs:Array Value} (h:Blk w b t cs) (i:Nat):w.frozen? ⟨b,i,none⟩=false:=frozen_of_row w b i cs t h
theorem Blk.below {w w':World} {b:Nat} {t:TypeId} {cs:Array Value} (h:Blk w b t cs) {B:Nat} (hb:Below B w w') (hB:b<B):Blk w' b t cs:=(hb.block b hB).trans h
theorem Blk.new (w:World) (t:TypeId) (cs:Array Value):Blk (w.alloc (.cells cs t)) w.heap.size t cs:=heap_alloc_new w _
theorem qtl (b o k:Nat):(⟨b,o,none⟩:Addr).add k=⟨b,o+k,none⟩:=Addr.add_lit b o k
def cutA (a:Option Addr) (cap lo s:Nat):Option Addr:=if cap=lo then a else a.map (·.add (lo*s))
@[go_sem ↓ high] theorem sliced_cutA (a:Option Addr) (l h m s:Nat):sliced a l h m s = .slice (cutA a m l s) (h-l) (m-l):=rfl
theorem Sl.cut {w:World} {a:Option Addr} {n c:Nat} {xs:List Value} (h:Sl w (.slice a n c) xs) {lo hi:Nat} (h1:lo<=hi) (h2:hi<=n) {A:Option Addr} {c':Nat}
  (hA':A=cutA a c lo 1) (hc:c'=c-lo):Sl w (.slice A (hi-lo) c') ((xs.take hi).drop lo):=by
 have hA:A=if c=lo then a else a.map (·.add lo):=by rw [hA'];unfold cutA;simp
 have hn:xs.length=n:=by
  rcases h.cases with ⟨a',c'',e,rfl⟩|⟨b,o,c'',e,_⟩
  ·injection e with _ e2 _;rw [e2];rfl
  ·injection e with _ e2 _;exact e2.symm
 have hl:((xs.take hi).drop lo).length=hi-lo:=by rw [List.length_drop,List.length_take];omega
 refine ⟨by simp,?_⟩;rw [hl];by_cases h0:hi-lo=0
 ·exact .inl ⟨A,c',by rw [h0],h0⟩
 ·rcases h.cases with ⟨a',c'',e,rfl⟩|⟨b,o,c'',e,e2,e3,e4,e5⟩
  ·simp at hn;omega
  ·injection e with g1 g2 g3
   subst g1 g3;rw [if_neg om] at hA;subst hA;refine .inr ⟨b,o+lo,c',by rw [Option.map_some,qtl],om,om,e4,fun i u hu=>?_⟩;rw [Nat.add_assoc]
   apply e5
   rw [List.getElem?_drop] at hu;have hlt:lo+i<hi:=by
    rcases Nat.lt_or_ge (lo+i) hi with g|g
    ·exact g
    ·rw [List.getElem?_eq_none (by rw [List.length_take];omega)] at hu;cases hu
   rw [List.getElem?_take_of_lt hlt] at hu;exact hu
theorem Sl.len {w:World} {a:Option Addr} {n c:Nat} {xs:List Value} (h:Sl w (.slice a n c) xs):xs.length=n:=by
 rcases h.cases with ⟨a',c'',e,rfl⟩|⟨b,o,c'',e,_⟩
 ·injection e with _ e2 _;rw [e2];rfl
 ·injection e with _ e2 _;exact e2.symm
@[go_sem high] theorem min_nat {P:Program} {w:World} (ts:Array TypeId) (t:TypeId) (k k':IntKind) (x y:Nat):(Builtin.min_ ts t #[.int k (x:Int),.int k' (y:Int)]).run P w = .ok (.int k ((min x y:Nat):Int)) w:=by
 rw [run_min_int2]
 congr 2
 split <;> omega
@[go_sem high] theorem max_nat {P:Program} {w:World} (ts:Array TypeId) (t:TypeId) (k k':IntKind) (x y:Nat):(Builtin.max_ ts t #[.int k (x:Int),.int k' (y:Int)]).run P w = .ok (.int k ((max x y:Nat):Int)) w:=by
 rw [run_max_int2]
 congr 2
 split <;> omega
theorem Sl.at_ {w:World} {a:Option Addr} {n c:Nat} {xs:List Value} (h:Sl w (.slice a n c) xs) {k:Nat} (hk:k<n) :
  ∃ b o,a=some ⟨b,o,none⟩∧b<w.heap.size∧∀ u,xs[k]?=some u->w.cell? ⟨b,o+k,none⟩=some u:=by
 rcases h.cases with ⟨a',c'',e,rfl⟩|⟨b,o,c'',e,e2,e3,e4,e5⟩
 ·injection e with _ e2 _;omega
 ·injection e with g1 g2 g3
  exact ⟨b,o,g1,e4,e5 k⟩
theorem Blk.alloc {w:World} {b:Nat} {t:TypeId} {cs:Array Value} (h:Blk w b t cs) (o:Obj):Blk (w.alloc o) b t cs:=(Below.heap_alloc w o b h.lt).trans h
structure Mb where
 n:Int
 b:Int
 f:Bool
 deriving DecidableEq
def Mb.cells (m:Mb):List Value:=[.int .i64 m.n,.int .i64 m.b,.bool m.f]
def Mb.val (m:Mb):Value:=.agg #[.int .i64 m.n,.int .i64 m.b,.bool m.f]
def Mb.at (ms:List Mb) (k:Nat):Mb:=ms.getD k ⟨0,0,false⟩
def SlM (w:World) (v:Value) (ms:List Mb):Prop:=SlN w v 3 ms.length (ms.flatMap Mb.cells)
theorem zbb (ms:List Mb) (k j:Nat) (hk:k<ms.length) (hj:j<3):(ms.flatMap Mb.cells)[k*3+j]?=((Mb.at ms k).cells)[j]?:=by
 induction ms generalizing k with
 | nil=>simp at hk
 | cons p ms ih =>
  rw [List.flatMap_cons];cases k with
  | zero=>rw [List.getElem?_append_left (by simp [Mb.cells];omega)];simp [Mb.at]
  | succ k =>
   rw [List.getElem?_append_right (by simp [Mb.cells];omega)];have e:(k+1)*3+j-p.cells.length=k*3+j:=by simp [Mb.cells];omega
   rw [e,ih k (by simpa using hk)];simp [Mb.at]
def MbAt (w:World) (b o:Nat) (m:Mb):Prop:=
 w.cell? ⟨b,o,none⟩=some (.int .i64 m.n)∧w.cell? ⟨b,o+1,none⟩=some (.int .i64 m.b)∧w.cell? ⟨b,o+2,none⟩=some (.bool m.f)
theorem SlM.len {w:World} {a:Option Addr} {n c:Nat} {ms:List Mb} (h:SlM w (.slice a n c) ms):ms.length=n:=by
 rcases h.2 with ⟨a',c',e,e2⟩|⟨b,o,c',e,_⟩
 ·injection e with _ e3 _;omega
 ·injection e with _ e3 _;exact e3.symm
theorem SlM.form {w:World} {v:Value} {ms:List Mb} (h:SlM w v ms):∃ a c,v = .slice a ms.length c:=by
 rcases h.2 with ⟨a',c',e,e2⟩|⟨b,o,c',e,_⟩
 ·exact ⟨a',c',by rw [e,e2]⟩
 ·exact ⟨_,c',e⟩
theorem SlM.at_ {w:World} {a:Option Addr} {n c:Nat} {ms:List Mb} (h:SlM w (.slice a n c) ms) {k:Nat} (hk:k<n) :
  ∃ b o,a=some ⟨b,o,none⟩∧b<w.heap.size∧∀ j,j<n->MbAt w b (o+j*3) (Mb.at ms j):=by
 have hl:=h.len;rcases h.2 with ⟨a',c',e,e2⟩|⟨b,o,c',e,e2,e3,e4,e5⟩
 ·omega
 ·injection e with g1 g2 g3
  refine ⟨b,o,g1,e4,fun i hi=>?_⟩;have g:∀ j,j<3->∀ u,((Mb.at ms i).cells)[j]?=some u->w.cell? ⟨b,o+i*3+j,none⟩=some u:=fun j hj u hu=>by
   rw [Nat.add_assoc];exact e5 _ u ((zbb ms i j om hj).trans hu)
  exact ⟨g 0 om _ rfl,g 1 om _ rfl,g 2 om _ rfl⟩
theorem SlM.below {w w':World} {v:Value} {ms:List Mb} (h:SlM w v ms) (hb:Below w.heap.size w w'):SlM w' v ms:=SlN.below h hb (Nat.le_refl _)
theorem SlM.alloc {w:World} {v:Value} {ms:List Mb} (h:SlM w v ms) (o:Obj):SlM (w.alloc o) v ms:=h.below ((Below.refl _ _).alloc (Nat.le_refl _) o)
theorem SlM.nil (w:World):SlM w (.slice none 0 0) []:=⟨rfl,.inl ⟨_,_,rfl,rfl⟩⟩
theorem MbAt.below {w w':World} {b o:Nat} {m:Mb} {B:Nat} (h:MbAt w b o m) (hb:Below B w w') (hB:b<B):MbAt w' b o m:=by
 have k:∀ x,w'.cell? ⟨b,x,none⟩=w.cell? ⟨b,x,none⟩:=fun x=>hb.cell (p:=⟨b,x,none⟩) hB;unfold MbAt at *;simp only [k];exact h
def qaw:Ty Int:=⟨1,fun n=>[Ii n],fun _=>rfl⟩
def tU64:Ty (BitVec 64):=⟨1,fun n=>[Iw n],fun _=>rfl⟩
def pageV (l:Int) (h d0 d1 d2 d3 d4 d5 d6:BitVec 64):Value:=
 .agg #[.int .i64 l,.int .u64 (UV h),.int .u64 (UV d0),.int .u64 (UV d1),.int .u64 (UV d2),.int .u64 (UV d3),.int .u64 (UV d4),.int .u64 (UV d5),.int .u64 (UV d6)]
theorem u64_one:∃ i,Tryz.prog.info? 24=some i:=by
 have h:(Tryz.prog.info? 24).isSome=true:=by kernel_rfl
 exact Option.isSome_iff_exists.1 h
@[go_sem high] theorem eq7 (d:Nat) (w:World) (a0 a1 a2 a3 a4 a5 a6 b0 b1 b2 b3 b4 b5 b6:BitVec 64) :
  (Op.equalIn (d+2) 48 (.agg #[.int .u64 (UV a0),.int .u64 (UV a1),.int .u64 (UV a2),.int .u64 (UV a3),.int .u64 (UV a4),.int .u64 (UV a5),.int .u64 (UV a6)])
   (.agg #[.int .u64 (UV b0),.int .u64 (UV b1),.int .u64 (UV b2),.int .u64 (UV b3),.int .u64 (UV b4),.int .u64 (UV b5),.int .u64 (UV b6)])).run prog w =
  .ok (a0==b0&&(a1==b1&&(a2==b2&&(a3==b3&&(a4==b4&&(a5==b5&&a6==b6)))))) w:=by
 obtain ⟨i,hi⟩:=u64_one;rw [show d+2=(d+1)+1 from rfl,run_equalIn_array w (d+1) _ _ Tryz.underlying48 hi];have hc:Tryz.prog.cellsOf 24=1:=by kernel_rfl
 rw [hc];have hp:∀ (cs:Array Value) (k:Nat) (h:k<cs.size) (w:World),(part 24 cs k).run prog w = .ok cs[k] w:=by
  intro cs k h w;simp [part,isAgg,run_underlying Tryz.underlying24,h]
 have he:∀ (a b:BitVec 64) (w:World),(Op.equalIn (d+1) 24 (.int .u64 (UV a)) (.int .u64 (UV b))).run prog w = .ok (a==b) w:=by
  intro a b w;rw [run_equalIn_int w d _ .u64 .u64 _ _ Tryz.underlying24,UV_beq]
 simp only [List.range_succ,List.range_zero,List.nil_append,List.cons_append,Op.eqItems,Sem.run_bind,Nat.mul_one];simp [hp,he];by_cases h0:a0=b0
 case neg=>simp [h0]
 by_cases h1:a1=b1
 case neg=>simp [h0,h1]
 by_cases h2:a2=b2
 case neg=>simp [h0,h1,h2]
 by_cases h3:a3=b3
 case neg=>simp [h0,h1,h2,h3]
 by_cases h4:a4=b4
 case neg=>simp [h0,h1,h2,h3,h4]
 by_cases h5:a5=b5
 case neg=>simp [h0,h1,h2,h3,h4,h5]
 by_cases h6:a6=b6
 case neg=>simp [h0,h1,h2,h3,h4,h5,h6]
 simp [h0,h1,h2,h3,h4,h5,h6]
structure Pg where
 l:Int
 h:BitVec 64
 d0:BitVec 64
 d1:BitVec 64
 d2:BitVec 64
 d3:BitVec 64
 d4:BitVec 64
 d5:BitVec 64
 d6:BitVec 64
 deriving DecidableEq
def Pg.cells (p:Pg):List Value:=[.int .i64 p.l,.int .u64 (UV p.h),.int .u64 (UV p.d0),.int .u64 (UV p.d1),.int .u64 (UV p.d2),.int .u64 (UV p.d3),.int .u64 (UV p.d4),.int .u64 (UV p.d5),.int .u64 (UV p.d6)]
def Pg.val (p:Pg):Value:=pageV p.l p.h p.d0 p.d1 p.d2 p.d3 p.d4 p.d5 p.d6
def SlP (w:World) (v:Value) (ps:List Pg):Prop:=SlN w v 9 ps.length (ps.flatMap Pg.cells)
theorem zf4 (ps:List Pg) (k j:Nat) (hk:k<ps.length) (hj:j<9):(ps.flatMap Pg.cells)[k*9+j]?=(ps[k].cells)[j]?:=by
 induction ps generalizing k with
 | nil=>simp at hk
 | cons p ps ih =>
  rw [List.flatMap_cons];cases k with
  | zero=>rw [List.getElem?_append_left (by simp [Pg.cells];omega)];simp
  | succ k =>
   rw [List.getElem?_append_right (by simp [Pg.cells];omega)];have e:(k+1)*9+j-p.cells.length=k*9+j:=by simp [Pg.cells];omega
   rw [e,ih k (by simpa using hk)];rfl
def PgAt (w:World) (b o:Nat) (p:Pg):Prop:=
 w.cell? ⟨b,o,none⟩=some (.int .i64 p.l)∧w.cell? ⟨b,o+1,none⟩=some (.int .u64 (UV p.h))∧w.cell? ⟨b,o+2,none⟩=some (.int .u64 (UV p.d0))∧w.cell? ⟨b,o+3,none⟩=some (.int .u64 (UV p.d1)) ∧
 w.cell? ⟨b,o+4,none⟩=some (.int .u64 (UV p.d2))∧w.cell? ⟨b,o+5,none⟩=some (.int .u64 (UV p.d3))∧w.cell? ⟨b,o+6,none⟩=some (.int .u64 (UV p.d4))∧w.cell? ⟨b,o+7,none⟩=some (.int .u64 (UV p.d5))∧w.cell? ⟨b,o+8,none⟩=some (.int .u64 (UV p.d6))
theorem SlP.len {w:World} {a:Option Addr} {n c:Nat} {ps:List Pg} (h:SlP w (.slice a n c) ps):ps.length=n:=by
 rcases h.2 with ⟨a',c',e,e2⟩|⟨b,o,c',e,_⟩
 ·injection e with _ e3 _;omega
 ·injection e with _ e3 _;exact e3.symm
theorem SlP.form {w:World} {v:Value} {ps:List Pg} (h:SlP w v ps):∃ a c,v = .slice a ps.length c:=by
 rcases h.2 with ⟨a',c',e,e2⟩|⟨b,o,c',e,_⟩
 ·exact ⟨a',c',by rw [e,e2]⟩
 ·exact ⟨_,c',e⟩
theorem SlP.at_ {w:World} {a:Option Addr} {n c:Nat} {ps:List Pg} (h:SlP w (.slice a n c) ps) {k:Nat} (hk:k<ps.length) :
  ∃ b o,a=some ⟨b,o,none⟩∧b<w.heap.size∧PgAt w b (o+k*9) ps[k]:=by
 have hl:=h.len;rcases h.2 with ⟨a',c',e,e2⟩|⟨b,o,c',e,e2,e3,e4,e5⟩
 ·omega
 ·injection e with g1 g2 g3
  refine ⟨b,o,g1,e4,?_⟩;have g:∀ j,j<9->∀ u,(ps[k].cells)[j]?=some u->w.cell? ⟨b,o+k*9+j,none⟩=some u:=fun j hj u hu=>by
   rw [Nat.add_assoc];exact e5 _ u ((zf4 ps k j hk hj).trans hu)
  exact ⟨g 0 om _ rfl,g 1 om _ rfl,g 2 om _ rfl,g 3 om _ rfl,g 4 om _ rfl,g 5 om _ rfl,g 6 om _ rfl,g 7 om _ rfl,g 8 om _ rfl⟩
theorem SlP.below {w w':World} {v:Value} {ps:List Pg} (h:SlP w v ps) (hb:Below w.heap.size w w'):SlP w' v ps:=SlN.below h hb (Nat.le_refl _)
theorem PgAt.below {w w':World} {b o:Nat} {p:Pg} {B:Nat} (h:PgAt w b o p) (hb:Below B w w') (hB:b<B):PgAt w' b o p:=by
 have k:∀ x,w'.cell? ⟨b,x,none⟩=w.cell? ⟨b,x,none⟩:=fun x=>hb.cell (p:=⟨b,x,none⟩) hB;unfold PgAt at *;simp only [k];exact h
theorem SlP.alloc {w:World} {v:Value} {ps:List Pg} (h:SlP w v ps) (o:Obj):SlP (w.alloc o) v ps:=h.below ((Below.refl _ _).alloc (Nat.le_refl _) o)
def tPg:Ty Pg:=⟨9,fun p=>[Ii p.l,Iw p.h,Iw p.d0,Iw p.d1,Iw p.d2,Iw p.d3,Iw p.d4,Iw p.d5,Iw p.d6],fun _=>rfl⟩
@[reducible] def qcv (p:Pg):VP:=IsAgg (tPg.cells p)
theorem qg2 (w:Nat) (k:Nat) (x:BitVec w) (m:BitVec w) (hm:m.toNat=2 ^ k-1):UV (x&&&m)=UV x % 2 ^ k:=by
 unfold UV;rw [BitVec.toNat_and,hm,Nat.and_two_pow_sub_one_eq_mod]
 push_cast;rfl
theorem qqd (w:Nat) (x:BitVec w) (n:Nat):UV (x>>>n)=UV x / 2 ^ n:=by
 unfold UV;rw [BitVec.toNat_ushiftRight,Nat.shiftRight_eq_div_pow]
 push_cast;rfl
structure Pt where
 line:Int
 gen:Int
 deriving DecidableEq
def tPt:Ty Pt:=⟨2,fun p=>[Ii p.line,Ii p.gen],fun _=>rfl⟩
@[reducible] def qh6 (p:Pt):VP:=IsAgg (tPt.cells p)
def Pt.nil:Pt:=⟨0,0⟩
def qlb (l:Int):Bool:=decide (l>=104)&&decide (l<256)
def qbt (p:Pt):Bool:=qlb p.line&&decide (p.gen>=1)&&decide (p.gen<=16777215)
def qbb (w:BitVec 32):Pt:=⟨UV w % 256,UV w / 256⟩
def qcq (p:Pt):BitVec 32:=if qbt p then BitVec.ofInt 32 (p.line+256*p.gen) else 0#32
theorem validP_iff {p:Pt}:qbt p=true↔104<=p.line∧p.line<256∧1<=p.gen∧p.gen<=16777215:=by
 unfold qbt qlb;simp only [Bool.and_eq_true,decide_eq_true_eq];omega
theorem qk7 {n:Int} (h:0<=n∧n<4294967296):UV (BitVec.ofInt 32 n)=n:=by
 unfold UV;rw [BitVec.toNat_ofInt];omega
theorem qwo {p:Pt} (h:qbt p=true):qbb (qcq p)=p:=by
 have h1:=validP_iff.1 h;unfold qbb qcq;rw [if_pos h,qk7 om];obtain ⟨l,g⟩:=p;dsimp only at h1 ⊢
 congr 1 <;> omega
theorem qpo {w:BitVec 32} (h:qbt (qbb w)=true):qcq (qbb w)=w:=by
 have h2:=zgj w;have h3:=qa2 w;unfold qcq;rw [if_pos h];unfold qbb;dsimp only;rw [show UV w % 256+256*(UV w / 256)=UV w by omega,qkv]
theorem pack_ne {p:Pt} (h:qbt p=true):qcq p≠0#32:=fun e=>by
 have h1:=validP_iff.1 h;have h2:UV (qcq p)=p.line+256*p.gen:=by unfold qcq;rw [if_pos h,qk7 om]
 rw [e] at h2;simp [UV] at h2;omega
theorem pack_or {p:Pt} (h:qbt p=true):BitVec.ofInt 32 p.gen<<<8|||BitVec.ofInt 32 p.line=qcq p:=by
 have h1:=validP_iff.1 h;have hg:(BitVec.ofInt 32 p.gen).toNat=p.gen.toNat:=by rw [BitVec.toNat_ofInt];omega
 have hl:(BitVec.ofInt 32 p.line).toNat=p.line.toNat:=by rw [BitVec.toNat_ofInt];omega
 unfold qcq;rw [if_pos h]
 apply BitVec.eq_of_toNat_eq
 rw [BitVec.toNat_or,BitVec.toNat_shiftLeft,hg,hl,BitVec.toNat_ofInt];have e:p.gen.toNat<<<8 % 2 ^ 32=2 ^ 8*p.gen.toNat:=by rw [Nat.shiftLeft_eq];omega
 rw [e,<- Nat.two_pow_add_eq_or_of_lt (by omega:p.line.toNat<2 ^ 8)];omega
theorem pack_add {p:Pt} (h:qbt p=true):BitVec.ofInt 32 p.line+256#32*BitVec.ofInt 32 p.gen=qcq p:=by
 have h1:=validP_iff.1 h;unfold qcq;rw [if_pos h]
 apply BitVec.eq_of_toNat_eq
 simp only [BitVec.toNat_add,BitVec.toNat_mul,BitVec.toNat_ofInt,BitVec.toNat_ofNat];omega
theorem zdx {p:Pt} (h:qbt p=false):qcq p=0#32:=by unfold qcq;rw [h];rfl
theorem qwp (x:BitVec 32):qbb x=⟨UV (x&&&BitVec.ofInt 32 255),UV (x>>>8)⟩:=by
 have h1:=qg2 32 8 x (BitVec.ofInt 32 255) rfl;have h2:=qqd 32 x 8;rw [h1,h2];rfl
theorem zar (x:BitVec 32):qbb x=⟨IntKind.i64.wrap ((UV x).tmod 256),IntKind.i64.wrap (IntKind.u32.wrap ((UV x).tdiv 256))⟩:=by
 have h1:=qa2 x;have h2:=zgj x;rw [Int.tmod_eq_emod_of_nonneg h1,Int.tdiv_eq_ediv_of_nonneg h1,wU32 (n:=UV x / 256) om,qqq (n:=UV x % 256) om,qqq (n:=UV x / 256) om];rfl
def Pt.cells (p:Pt):List Value:=[.int .i64 p.line,.int .i64 p.gen]
section
theorem qz2 (p q:Pt) (w:World):(Op.equal 45 (.agg p.cells.toArray) (.agg q.cells.toArray)).run prog w = .ok (decide (p=q)) w:=by
 have h:(Op.equalIn (9999+1) 45 (.agg #[.int .i64 p.line,.int .i64 p.gen]) (.agg #[.int .i64 q.line,.int .i64 q.gen])).run prog w = .ok (decide (p=q)) w:=by
  go_simp
  obtain ⟨a,b⟩:=p;obtain ⟨a',b'⟩:=q;by_cases h1:a=a' <;> by_cases h2:b=b' <;> simp [h1,h2]
 exact h
theorem qct (o:BinOp) (x y:Operand) (p q:Pt) (w:World):(eqGuard o 45 x y (.agg p.cells.toArray) (.agg q.cells.toArray)).run prog w = .ok () w:=by
 have h:Tryz.prog.eqGuardType Tryz.prog.depth 45=false:=by kernel_rfl
 cases o <;> simp [eqGuard,program,Sem.run,h]
theorem qek (p q:Pt) (w:World):(binOp .eql 45 (.agg p.cells.toArray) (.agg q.cells.toArray)).run prog w = .ok (.bool (decide (p=q))) w:=by
 simp only [binOp,Sem.run_bind,qz2,Result.andThen_ok,Sem.run_pure]
theorem eqPt_neq (p q:Pt) (w:World):(binOp .neq 45 (.agg p.cells.toArray) (.agg q.cells.toArray)).run prog w = .ok (.bool (!decide (p=q))) w:=by
 simp only [binOp,Sem.run_bind,qz2,Result.andThen_ok,Sem.run_pure]
theorem qvl (p q:Pt) (w:World):(Op.equal 57 (.agg p.cells.toArray) (.agg q.cells.toArray)).run prog w = .ok (decide (p=q)) w:=by
 have h:(Op.equalIn (9999+1) 57 (.agg #[.int .i64 p.line,.int .i64 p.gen]) (.agg #[.int .i64 q.line,.int .i64 q.gen])).run prog w = .ok (decide (p=q)) w:=by
  go_simp
  obtain ⟨a,b⟩:=p;obtain ⟨a',b'⟩:=q;by_cases h1:a=a' <;> by_cases h2:b=b' <;> simp [h1,h2]
 exact h
theorem qd3 (o:BinOp) (x y:Operand) (p q:Pt) (w:World):(eqGuard o 57 x y (.agg p.cells.toArray) (.agg q.cells.toArray)).run prog w = .ok () w:=by
 have h:Tryz.prog.eqGuardType Tryz.prog.depth 57=false:=by kernel_rfl
 cases o <;> simp [eqGuard,program,Sem.run,h]
theorem qf6 (p q:Pt) (w:World):(binOp .eql 57 (.agg p.cells.toArray) (.agg q.cells.toArray)).run prog w = .ok (.bool (decide (p=q))) w:=by
 simp only [binOp,Sem.run_bind,qvl,Result.andThen_ok,Sem.run_pure]
theorem zft (p q:Pt) (w:World):(binOp .neq 57 (.agg p.cells.toArray) (.agg q.cells.toArray)).run prog w = .ok (.bool (!decide (p=q))) w:=by
 simp only [binOp,Sem.run_bind,qvl,Result.andThen_ok,Sem.run_pure]
end
structure Hd where
 owner:Int
 used:BitVec 32
 deriving DecidableEq
structure Re where
 to:Pt
 ep:BitVec 32
 deriving DecidableEq
structure Nd where
 pin:Bool
 ep:BitVec 32
 sg:BitVec 32
 inc:Int
 r0:Re
 r1:Re
 r2:Re
 r3:Re
 deriving DecidableEq
def Hd.nil:Hd:=⟨0,0#32⟩
def Re.nil:Re:=⟨Pt.nil,0#32⟩
def Nd.nil:Nd:=⟨false,0#32,0#32,0,Re.nil,Re.nil,Re.nil,Re.nil⟩
def tHd:Ty Hd:=⟨2,fun x=>[Ii x.owner,Is (.int .u32 (UV x.used))],fun _=>rfl⟩
@[reducible] def IsHd (x:Hd):VP:=IsAgg (tHd.cells x)
def Hd.cells (x:Hd):List Value:=[.int .i64 x.owner,.int .u32 (UV x.used)]
def tRe:Ty Re:=⟨3,fun x=>[Ii x.to.line,Ii x.to.gen,Is (.int .u32 (UV x.ep))],fun _=>rfl⟩
def Re.cells (x:Re):List Value:=[.int .i64 x.to.line,.int .i64 x.to.gen,.int .u32 (UV x.ep)]
def tNd:Ty Nd:=⟨16,fun x=>[Ib x.pin,Is (.int .u32 (UV x.ep)),Is (.int .u32 (UV x.sg)),Ii x.inc,Ii x.r0.to.line,Ii x.r0.to.gen,Is (.int .u32 (UV x.r0.ep)),Ii x.r1.to.line,Ii x.r1.to.gen,Is (.int .u32 (UV x.r1.ep)),Ii x.r2.to.line,Ii x.r2.to.gen,Is (.int .u32 (UV x.r2.ep)),Ii x.r3.to.line,Ii x.r3.to.gen,Is (.int .u32 (UV x.r3.ep))],fun _=>rfl⟩
@[reducible] def IsNd (x:Nd):VP:=IsAgg (tNd.cells x)
def Nd.cells (x:Nd):List Value:=[.bool x.pin,.int .u32 (UV x.ep),.int .u32 (UV x.sg),.int .i64 x.inc,.int .i64 x.r0.to.line,.int .i64 x.r0.to.gen,.int .u32 (UV x.r0.ep),.int .i64 x.r1.to.line,.int .i64 x.r1.to.gen,.int .u32 (UV x.r1.ep),.int .i64 x.r2.to.line,.int .i64 x.r2.to.gen,.int .u32 (UV x.r2.ep),.int .i64 x.r3.to.line,.int .i64 x.r3.to.gen,.int .u32 (UV x.r3.ep)]
theorem qm0 (d:Nat) (w:World) (p q:Re):(Op.equalIn (d+3) 211 (.agg #[.int .i64 p.to.line,.int .i64 p.to.gen,.int .u32 (UV p.ep)]) (.agg #[.int .i64 q.to.line,.int .i64 q.to.gen,.int .u32 (UV q.ep)])).run prog w = .ok (decide (p=q)) w:=by
 go_simp
 obtain ⟨⟨a,b⟩,c⟩:=p;obtain ⟨⟨a',b'⟩,c'⟩:=q;by_cases h1:a=a' <;> by_cases h2:b=b' <;> by_cases h3:c=c' <;> simp [h1,h2,h3]
theorem qvk (p q:Re) (w:World):(Op.equal 211 (.agg p.cells.toArray) (.agg q.cells.toArray)).run prog w = .ok (decide (p=q)) w:=qm0 9997 w p q
theorem zfr:∃ i,Tryz.prog.info? 211=some i:=by
 have h:(Tryz.prog.info? 211).isSome=true:=by kernel_rfl
 exact Option.isSome_iff_exists.1 h
theorem qhi (cs:Array Value) (k:Nat) (w:World):(part 211 cs k).run prog w = .ok (.agg (cs.extract k (k+3))) w:=by
 have hn:(Tryz.prog.info? 211).map (·.size)=some 3:=by kernel_rfl
 have hu:(isAgg 211).run prog w = .ok true w:=qf2 Tryz.underlying211 w;simp only [part,Sem.run_bind,hu,Result.andThen_ok,if_true,qbd hn,Sem.run_pure]
@[go_sem high] theorem eqReR_4 (d:Nat) (w:World) (a0 a1 a2 a3 b0 b1 b2 b3:Re) :
  (Op.equalIn (d+4) 212 (.agg #[.int .i64 a0.to.line,.int .i64 a0.to.gen,.int .u32 (UV a0.ep),.int .i64 a1.to.line,.int .i64 a1.to.gen,.int .u32 (UV a1.ep),.int .i64 a2.to.line,.int .i64 a2.to.gen,.int .u32 (UV a2.ep),.int .i64 a3.to.line,.int .i64 a3.to.gen,.int .u32 (UV a3.ep)]) (.agg #[.int .i64 b0.to.line,.int .i64 b0.to.gen,.int .u32 (UV b0.ep),.int .i64 b1.to.line,.int .i64 b1.to.gen,.int .u32 (UV b1.ep),.int .i64 b2.to.line,.int .i64 b2.to.gen,.int .u32 (UV b2.ep),.int .i64 b3.to.line,.int .i64 b3.to.gen,.int .u32 (UV b3.ep)])).run prog w = .ok ((decide (a0=b0)&&(decide (a1=b1)&&(decide (a2=b2)&&decide (a3=b3))))) w:=by
 obtain ⟨i,hi⟩:=zfr;rw [show d+4=(d+3)+1 from rfl,run_equalIn_array w (d+3) _ _ Tryz.underlying212 hi];have hc:Tryz.prog.cellsOf 211=3:=by kernel_rfl
 rw [hc];simp only [List.range_succ,List.range_zero,List.nil_append,List.cons_append,Op.eqItems,Sem.run_bind,qhi,Result.andThen_ok];have e0:=qm0 d w a0 b0;have e1:=qm0 d w a1 b1;have e2:=qm0 d w a2 b2;have e3:=qm0 d w a3 b3;simp [qhi,e0,e1,e2,e3];by_cases h0:a0=b0
 case neg=>simp [qhi,e0,e1,e2,e3,h0]
 by_cases h1:a1=b1
 case neg=>simp [qhi,e0,e1,e2,e3,h0,h1]
 by_cases h2:a2=b2
 case neg=>simp [qhi,e0,e1,e2,e3,h0,h1,h2]
 by_cases h3:a3=b3 <;> simp [qhi,e0,e1,e2,e3,h0,h1,h2,h3]
theorem qgf (o:BinOp) (x y:Operand) (p q:Re) (w:World):(eqGuard o 211 x y (.agg p.cells.toArray) (.agg q.cells.toArray)).run prog w = .ok () w:=by
 have h:Tryz.prog.eqGuardType Tryz.prog.depth 211=false:=by kernel_rfl
 cases o <;> simp [eqGuard,program,Sem.run,h]
theorem qj7 (p q:Re) (w:World):(binOp .eql 211 (.agg p.cells.toArray) (.agg q.cells.toArray)).run prog w = .ok (.bool (decide (p=q))) w:=by
 simp only [binOp,Sem.run_bind,qvk,Result.andThen_ok,Sem.run_pure]
theorem zfs (p q:Re) (w:World):(binOp .neq 211 (.agg p.cells.toArray) (.agg q.cells.toArray)).run prog w = .ok (.bool (!decide (p=q))) w:=by
 simp only [binOp,Sem.run_bind,qvk,Result.andThen_ok,Sem.run_pure]
structure Rt where
 first:Pt
 depth:Int
 p0:Pt
 p1:Pt
 p2:Pt
 p3:Pt
 deriving DecidableEq
def Rt.nil:Rt:=⟨Pt.nil,0,Pt.nil,Pt.nil,Pt.nil,Pt.nil⟩
def tRt:Ty Rt:=⟨11,fun r=>[Ii r.first.line,Ii r.first.gen,Ii r.depth,Ii r.p0.line,Ii r.p0.gen,Ii r.p1.line,Ii r.p1.gen,Ii r.p2.line,Ii r.p2.gen,Ii r.p3.line,Ii r.p3.gen],fun _=>rfl⟩
@[reducible] def qwl (r:Rt):VP:=IsAgg (tRt.cells r)
def Rt.cells (r:Rt):List Value:=[.int .i64 r.first.line,.int .i64 r.first.gen,.int .i64 r.depth,.int .i64 r.p0.line,.int .i64 r.p0.gen,.int .i64 r.p1.line,.int .i64 r.p1.gen,.int .i64 r.p2.line,.int .i64 r.p2.gen,.int .i64 r.p3.line,.int .i64 r.p3.gen]
theorem qta (d:Nat) (w:World) (p q:Pt):(Op.equalIn (d+2) 45 (.agg #[.int .i64 p.line,.int .i64 p.gen]) (.agg #[.int .i64 q.line,.int .i64 q.gen])).run prog w = .ok (decide (p=q)) w:=by
 go_simp
 obtain ⟨a,b⟩:=p;obtain ⟨a',b'⟩:=q;by_cases h1:a=a' <;> by_cases h2:b=b' <;> simp [h1,h2]
theorem eq4P_one:∃ i,Tryz.prog.info? 45=some i:=by
 have h:(Tryz.prog.info? 45).isSome=true:=by kernel_rfl
 exact Option.isSome_iff_exists.1 h
theorem qi1 (cs:Array Value) (k:Nat) (w:World):(part 45 cs k).run prog w = .ok (.agg (cs.extract k (k+2))) w:=by
 have hn:(Tryz.prog.info? 45).map (·.size)=some 2:=by kernel_rfl
 have hu:(isAgg 45).run prog w = .ok true w:=qf2 Tryz.underlying45 w;simp only [part,Sem.run_bind,hu,Result.andThen_ok,if_true,qbd hn,Sem.run_pure]
@[go_sem high] theorem eq4P (d:Nat) (w:World) (a0 a1 a2 a3 b0 b1 b2 b3:Pt) :
  (Op.equalIn (d+3) 79 (.agg #[.int .i64 a0.line,.int .i64 a0.gen,.int .i64 a1.line,.int .i64 a1.gen,.int .i64 a2.line,.int .i64 a2.gen,.int .i64 a3.line,.int .i64 a3.gen]) (.agg #[.int .i64 b0.line,.int .i64 b0.gen,.int .i64 b1.line,.int .i64 b1.gen,.int .i64 b2.line,.int .i64 b2.gen,.int .i64 b3.line,.int .i64 b3.gen])).run prog w = .ok ((decide (a0=b0)&&(decide (a1=b1)&&(decide (a2=b2)&&decide (a3=b3))))) w:=by
 obtain ⟨i,hi⟩:=eq4P_one;rw [show d+3=(d+2)+1 from rfl,run_equalIn_array w (d+2) _ _ Tryz.underlying79 hi];have hc:Tryz.prog.cellsOf 45=2:=by kernel_rfl
 rw [hc];simp only [List.range_succ,List.range_zero,List.nil_append,List.cons_append,Op.eqItems,Sem.run_bind,qi1,Result.andThen_ok];have e0:=qta d w a0 b0;have e1:=qta d w a1 b1;have e2:=qta d w a2 b2;have e3:=qta d w a3 b3;simp [qi1,e0,e1,e2,e3];by_cases h0:a0=b0
 case neg=>simp [qi1,e0,e1,e2,e3,h0]
 by_cases h1:a1=b1
 case neg=>simp [qi1,e0,e1,e2,e3,h0,h1]
 by_cases h2:a2=b2
 case neg=>simp [qi1,e0,e1,e2,e3,h0,h1,h2]
 by_cases h3:a3=b3 <;> simp [qi1,e0,e1,e2,e3,h0,h1,h2,h3]
theorem qs9 (d:Nat) (w:World) (p q:Pt):(Op.equalIn (d+2) 57 (.agg #[.int .i64 p.line,.int .i64 p.gen]) (.agg #[.int .i64 q.line,.int .i64 q.gen])).run prog w = .ok (decide (p=q)) w:=by
 go_simp
 obtain ⟨a,b⟩:=p;obtain ⟨a',b'⟩:=q;by_cases h1:a=a' <;> by_cases h2:b=b' <;> simp [h1,h2]
theorem eq4R_one:∃ i,Tryz.prog.info? 57=some i:=by
 have h:(Tryz.prog.info? 57).isSome=true:=by kernel_rfl
 exact Option.isSome_iff_exists.1 h
theorem qi0 (cs:Array Value) (k:Nat) (w:World):(part 57 cs k).run prog w = .ok (.agg (cs.extract k (k+2))) w:=by
 have hn:(Tryz.prog.info? 57).map (·.size)=some 2:=by kernel_rfl
 have hu:(isAgg 57).run prog w = .ok true w:=qf2 Tryz.underlying57 w;simp only [part,Sem.run_bind,hu,Result.andThen_ok,if_true,qbd hn,Sem.run_pure]
@[go_sem high] theorem eq4R (d:Nat) (w:World) (a0 a1 a2 a3 b0 b1 b2 b3:Pt) :
  (Op.equalIn (d+3) 161 (.agg #[.int .i64 a0.line,.int .i64 a0.gen,.int .i64 a1.line,.int .i64 a1.gen,.int .i64 a2.line,.int .i64 a2.gen,.int .i64 a3.line,.int .i64 a3.gen]) (.agg #[.int .i64 b0.line,.int .i64 b0.gen,.int .i64 b1.line,.int .i64 b1.gen,.int .i64 b2.line,.int .i64 b2.gen,.int .i64 b3.line,.int .i64 b3.gen])).run prog w = .ok ((decide (a0=b0)&&(decide (a1=b1)&&(decide (a2=b2)&&decide (a3=b3))))) w:=by
 obtain ⟨i,hi⟩:=eq4R_one;rw [show d+3=(d+2)+1 from rfl,run_equalIn_array w (d+2) _ _ Tryz.underlying161 hi];have hc:Tryz.prog.cellsOf 57=2:=by kernel_rfl
 rw [hc];simp only [List.range_succ,List.range_zero,List.nil_append,List.cons_append,Op.eqItems,Sem.run_bind,qi0,Result.andThen_ok];have e0:=qs9 d w a0 b0;have e1:=qs9 d w a1 b1;have e2:=qs9 d w a2 b2;have e3:=qs9 d w a3 b3;simp [qi0,e0,e1,e2,e3];by_cases h0:a0=b0
 case neg=>simp [qi0,e0,e1,e2,e3,h0]
 by_cases h1:a1=b1
 case neg=>simp [qi0,e0,e1,e2,e3,h0,h1]
 by_cases h2:a2=b2
 case neg=>simp [qi0,e0,e1,e2,e3,h0,h1,h2]
 by_cases h3:a3=b3 <;> simp [qi0,e0,e1,e2,e3,h0,h1,h2,h3]
theorem eqRt_run (p q:Rt) (w:World):(Op.equal 81 (.agg p.cells.toArray) (.agg q.cells.toArray)).run prog w = .ok (decide (p=q)) w:=by
 obtain ⟨a0,ad,a1,a2,a3,a4⟩:=p;obtain ⟨b0,bd,b1,b2,b3,b4⟩:=q;have h:(Op.equalIn (9999+1) 81 (.agg #[.int .i64 a0.line,.int .i64 a0.gen,.int .i64 ad,.int .i64 a1.line,.int .i64 a1.gen,.int .i64 a2.line,.int .i64 a2.gen,.int .i64 a3.line,.int .i64 a3.gen,.int .i64 a4.line,.int .i64 a4.gen]) (.agg #[.int .i64 b0.line,.int .i64 b0.gen,.int .i64 bd,.int .i64 b1.line,.int .i64 b1.gen,.int .i64 b2.line,.int .i64 b2.gen,.int .i64 b3.line,.int .i64 b3.gen,.int .i64 b4.line,.int .i64 b4.gen])).run prog w = .ok (decide ((⟨a0,ad,a1,a2,a3,a4⟩:Rt)=⟨b0,bd,b1,b2,b3,b4⟩)) w:=by
  go_simp
  obtain ⟨x,y⟩:=a0;obtain ⟨x',y'⟩:=b0;by_cases hx:x=x'
  case neg=>simp [hx]
  by_cases hy:y=y'
  case neg=>simp [hx,hy]
  by_cases hd:ad=bd
  case neg=>simp [hx,hy,hd]
  by_cases h1:a1=b1
  case neg=>simp [hx,hy,hd,h1]
  by_cases h2:a2=b2
  case neg=>simp [hx,hy,hd,h1,h2]
  by_cases h3:a3=b3 <;> by_cases h4:a4=b4 <;> simp [hx,hy,hd,h1,h2,h3,h4]
 exact h
theorem zbk (o:BinOp) (x y:Operand) (p q:Rt) (w:World):(eqGuard o 81 x y (.agg p.cells.toArray) (.agg q.cells.toArray)).run prog w = .ok () w:=by
 have h:Tryz.prog.eqGuardType Tryz.prog.depth 81=false:=by kernel_rfl
 cases o <;> simp [eqGuard,program,Sem.run,h]
theorem eqRt_eql (p q:Rt) (w:World):(binOp .eql 81 (.agg p.cells.toArray) (.agg q.cells.toArray)).run prog w = .ok (.bool (decide (p=q))) w:=by
 simp only [binOp,Sem.run_bind,eqRt_run,Result.andThen_ok,Sem.run_pure]
theorem zfp (p q:Rt) (w:World):(Op.equal 163 (.agg p.cells.toArray) (.agg q.cells.toArray)).run prog w = .ok (decide (p=q)) w:=by
 obtain ⟨a0,ad,a1,a2,a3,a4⟩:=p;obtain ⟨b0,bd,b1,b2,b3,b4⟩:=q;have h:(Op.equalIn (9999+1) 163 (.agg #[.int .i64 a0.line,.int .i64 a0.gen,.int .i64 ad,.int .i64 a1.line,.int .i64 a1.gen,.int .i64 a2.line,.int .i64 a2.gen,.int .i64 a3.line,.int .i64 a3.gen,.int .i64 a4.line,.int .i64 a4.gen]) (.agg #[.int .i64 b0.line,.int .i64 b0.gen,.int .i64 bd,.int .i64 b1.line,.int .i64 b1.gen,.int .i64 b2.line,.int .i64 b2.gen,.int .i64 b3.line,.int .i64 b3.gen,.int .i64 b4.line,.int .i64 b4.gen])).run prog w = .ok (decide ((⟨a0,ad,a1,a2,a3,a4⟩:Rt)=⟨b0,bd,b1,b2,b3,b4⟩)) w:=by
  go_simp
  obtain ⟨x,y⟩:=a0;obtain ⟨x',y'⟩:=b0;by_cases hx:x=x'
  case neg=>simp [hx]
  by_cases hy:y=y'
  case neg=>simp [hx,hy]
  by_cases hd:ad=bd
  case neg=>simp [hx,hy,hd]
  by_cases h1:a1=b1
  case neg=>simp [hx,hy,hd,h1]
  by_cases h2:a2=b2
  case neg=>simp [hx,hy,hd,h1,h2]
  by_cases h3:a3=b3 <;> by_cases h4:a4=b4 <;> simp [hx,hy,hd,h1,h2,h3,h4]
 exact h
theorem qxs (o:BinOp) (x y:Operand) (p q:Rt) (w:World):(eqGuard o 163 x y (.agg p.cells.toArray) (.agg q.cells.toArray)).run prog w = .ok () w:=by
 have h:Tryz.prog.eqGuardType Tryz.prog.depth 163=false:=by kernel_rfl
 cases o <;> simp [eqGuard,program,Sem.run,h]
theorem zfq (p q:Rt) (w:World):(binOp .eql 163 (.agg p.cells.toArray) (.agg q.cells.toArray)).run prog w = .ok (.bool (decide (p=q))) w:=by
 simp only [binOp,Sem.run_bind,zfp,Result.andThen_ok,Sem.run_pure]
structure En where
 key:BitVec 32
 to:Pt
 deriving DecidableEq
structure Bk where
 depth:Int
 pat:BitVec 32
 next:Pt
 es:List En
 deriving DecidableEq
def tEn:Ty En:=⟨3,fun e=>[Is (.int .u32 (UV e.key)),Ii e.to.line,Ii e.to.gen],fun _=>rfl⟩
def tBk:Ty Bk:=⟨5,fun b=>[Ii b.depth,Is (.int .u32 (UV b.pat)),Ii b.next.line,Ii b.next.gen,qad tEn b.es],fun _=>rfl⟩
@[reducible] def IsEn (e:En):VP:=IsAgg (tEn.cells e)
@[reducible] def zb9 (b:Bk):VP:=IsAgg (tBk.cells b)
def En.cells (e:En):List Value:=[.int .u32 (UV e.key),.int .i64 e.to.line,.int .i64 e.to.gen]
def Bk.nil:Bk:=⟨0,0#32,Pt.nil,[]⟩
theorem zcr {a:Int} (h:(Lit.int .u64 a).wf=true):∃ x:BitVec 64,a=UV x:=by
 simp [Lit.wf,IntKind.min,IntKind.max,IntKind.signed,IntKind.bits] at h;refine ⟨BitVec.ofNat 64 a.toNat,?_⟩;unfold UV;rw [BitVec.toNat_ofNat];omega
theorem ze6 {a:Int} (h:(Lit.int .i64 a).wf=true):-9223372036854775808<=a∧a<=9223372036854775807:=by
 simp [Lit.wf,IntKind.min,IntKind.max,IntKind.signed,IntKind.bits] at h;omega

section
open Go.RowKit Go.ChangeShapes Go.WideShapes Go.ChangeAt
section
variable {H:Type} {enc:TypeId×Value->H} {P:Program} {w:World} {base:Nat} {held:Bool}
theorem trod_lt0 {t:TypeId} {v:Value} {d:DataW H} {ps:List MemPlace} {sp:Nat->Bool} (h:DataW.Trod enc P w 0 sp held t v d ps):∀ x∈ps,x.block<w.heap.size:=by
 obtain ⟨m,hm⟩:=h;exact DataW.trod_lt m _ _ _ hm
end
end
section
open Go.RowKit Go.ChangeShapes Go.WideShapes Go.ChangeAt
def phi (w:World):Fz:=fun b i=>w.cell? ⟨b,i,none⟩
theorem Fn.run {P:Program} {f:FuncId} {As:List VP} {r:Value} (h:FnP P f As (Is r)) (w:World) (vs:List Value) (hv:Alls (phi w) As vs):Calls P f vs.toArray w fun e w'=>e = .returned r∧Below w.heap.size w w':=by
 refine (h (phi w) w vs hv ⟨fun _ _ _ h=>h,by simp,List.Pairwise.nil⟩).mono ?_;rintro e w' ⟨i,v,φ',rfl,h1,h2⟩;have h1':v=r:=h1;subst h1';exact ⟨rfl,Kpt.below (by simpa [qbr] using h2.kept)⟩
def tU32:Ty (BitVec 32):=⟨1,fun n=>[Is (.int .u32 (UV n))],fun _=>rfl⟩
def tBool:Ty Bool:=⟨1,fun b=>[Ib b],fun _=>rfl⟩
def tSl {α:Type} (T:Ty α):Ty (List α):=⟨1,fun xs=>[qad T xs],fun _=>rfl⟩
def ql6 (a:Int):Prop:=-9223372036854775808<=a∧a<=9223372036854775807
section
variable {H:Type} {enc:TypeId×Value->H} {P:Program} {w:World} {base:Nat} {sp:Nat->Bool} {held:Bool}
def Rds {H:Type} (enc:TypeId×Value->H) (P:Program) (w:World) (base:Nat) (sp:Nat->Bool) (held:Bool) {α:Type} (t:TypeId) (T:Ty α) (R:α->Prop):Prop:=
 ∀ (fuel:Nat) (cs:List Value) (x:DataW H×List MemPlace),DataW.trod enc P w base sp held fuel t cs=some x->∃ a,Alls (phi w) (T.cells a) cs∧ones cs∧R a
theorem qei {us vs:List Value} (h:ones us) (k:ones vs):ones (us++vs):=fun u hu=>(List.mem_append.1 hu).elim (h u) (k u)
theorem qrr {v:Value} (h:v.oneCell'=true):ones [v]:=qpu h qg6
theorem rds_i64 {t:TypeId} (ht:P.underlying t=some (.int .i64)):Rds enc P w base sp held t qaw ql6:=by
 intro fuel cs x h;obtain ⟨a,rfl,_,hw⟩:=DataW.trod_int ht h;exact ⟨a,⟨rfl,trivial⟩,qrr rfl,ze6 hw⟩
theorem rds_u64 {t:TypeId} (ht:P.underlying t=some (.int .u64)):Rds enc P w base sp held t tU64 (fun _=>True):=by
 intro fuel cs x h;obtain ⟨a,rfl,_,hw⟩:=DataW.trod_int ht h;obtain ⟨b,rfl⟩:=zcr hw;exact ⟨b,⟨rfl,trivial⟩,qrr rfl,trivial⟩
theorem rds_bool {t:TypeId} (ht:P.underlying t=some .bool):Rds enc P w base sp held t tBool (fun _=>True):=by
 intro fuel cs x h;obtain ⟨a,rfl,_⟩:=DataW.trod_bool ht h;exact ⟨a,⟨rfl,trivial⟩,qrr rfl,trivial⟩
theorem rds_slice {α:Type} {T:Ty α} {R:α->Prop} {t e:TypeId} (ht:P.underlying t=some (.slice e)) (hc:P.cellsOf e=T.size) (hs:Nat.blt 0 T.size=true) (he:Rds enc P w base sp held e T R):Rds enc P w base sp held t (tSl T) (fun xs=>∀ a∈xs,R a):=by
 intro fuel cs x h;have hs':0<T.size:=Nat.le_of_ble_eq_true hs;rcases Go.Deep.open_slice ht h with ⟨rfl,_⟩|⟨a,len,cap,m,n,D,Pl,rfl,_,hl,hm,hmm,_,hx⟩
 ·exact ⟨[],⟨⟨none,0,0,rfl,rfl,Nat.le_refl _,nZ _,.inl rfl⟩,trivial⟩,qrr rfl,fun a ha=>absurd ha (List.not_mem_nil)⟩
 have hlm:len<=m:=by rw [hmm];split <;> omega
 rcases Nat.eq_zero_or_pos len with h0|h0
 ·subst h0;exact ⟨[],⟨⟨some a,0,cap,rfl,rfl,nZ _,hm,.inl rfl⟩,trivial⟩,qrr rfl,fun a ha=>absurd ha (List.not_mem_nil)⟩
 have hspot:a.spot=none:=by
  obtain ⟨cs',h1,h2⟩:=hx 0 om;rw [hc] at h1;obtain ⟨_,hlen,hcell⟩:=World.cells?_some h1;have h3:=hcell 0 hs';rw [gE om] at h3
  simpa [Addr.add] using World.cell?_spot h3
 have key:∀ i,i<len->∃ y:α,a.spot=none∧RefAt (phi w) a.block (a.off+i*T.size) (T.cells y)∧R y:=fun i hi=>by
  obtain ⟨cs',h1,h2⟩:=hx i om;rw [hc] at h1;obtain ⟨_,hlen,hcell⟩:=World.cells?_some h1;obtain ⟨y,g1,g2,g3⟩:=he _ _ _ h2;refine ⟨y,hspot,fun j A hA=>?_,g3⟩;obtain ⟨u,k1,k2⟩:=g1.get hA;refine ⟨u,?_,k2,g2 u (List.mem_of_getElem? k1)⟩;have hj:j<T.size:=by
   have:=(List.getElem?_eq_some_iff.1 hA).1;rw [T.len] at this;exact this
  have h3:=hcell j hj;rw [k1] at h3;obtain ⟨b,o,q⟩:=a;dsimp only at hspot;subst hspot;rw [qtl,qtl] at h3;exact h3
 obtain ⟨y0,_,_⟩:=key 0 h0;have:Inhabited α:=⟨y0⟩
 obtain ⟨A,hA⟩:=Go.Deep.choose_lt key;obtain ⟨b,o,q⟩:=a;dsimp only at hspot hA;subst hspot;refine ⟨(List.range len).map A,⟨⟨some ⟨b,o,none⟩,len,cap,rfl,by simp,hl,hm,.inr ⟨b,o,rfl,fun k x hk=>?_⟩⟩,trivial⟩,qrr rfl,fun y hy=>?_⟩
 ·have hlt:k<len:=by
   have:=(List.getElem?_eq_some_iff.1 hk).1
   simpa using this
  rw [List.getElem?_map,List.getElem?_range hlt] at hk;simp only [Option.map_some,Option.some.injEq] at hk;subst hk;exact (hA k hlt).2.1
 ·obtain ⟨i,hi,rfl⟩:=List.mem_map.1 hy;exact (hA i (List.mem_range.1 hi)).2.2
theorem rds_argS {α:Type} {T:Ty α} {R:α->Prop} {t:TypeId} {fs:Array Field} (ht:P.underlying t=some (.struct fs)) {r:Reach} {b0:Nat} {v:Value} {d:DataW H} {ps:List MemPlace} (he:Rds enc P w base sp held t T R)
  (hval:Value.okWide P w r b0 t v) (h:DataW.Trod enc P w base sp held t v d ps):∃ a,(IsAgg (T.cells a)).ok (phi w) v∧R a:=by
 obtain ⟨cs,rfl,_⟩:=okWide_struct ht hval;obtain ⟨fuel,hf⟩:=h;obtain ⟨a,h1,h2,h3⟩:=he _ _ _ hf;exact ⟨a,⟨_,rfl,h1,h2⟩,h3⟩
end
end
structure S19 where
 need:List Int
 fresh:List Pg
 writes:List Pg
 s:Int
 code:Int
 over:Bool
def tS19:Ty S19:=⟨6,fun a=>[qad qaw a.need,qad tPg a.fresh,qad tPg a.writes,Ii a.s,Ii a.code,Ib a.over],fun _=>rfl⟩
@[reducible] def zg1 (a:S19):VP:=IsAgg (tS19.cells a)
def tS19F (B:Nat):Ty S19:=⟨6,fun a=>[qad qaw a.need,qad tPg a.fresh,qa9 B (qad tPg a.writes),Ii a.s,Ii a.code,Ib a.over],fun _=>rfl⟩
@[reducible] def IsS19F (B:Nat) (a:S19):VP:=IsAgg ((tS19F B).cells a)
def S19.nil:S19:=⟨[],[],[],0,0,false⟩
structure Rw where
 key:BitVec 32
 cols0:Int
 cols1:Int
 cols2:Int
def tRw:Ty Rw:=⟨4,fun a=>[Is (.int .u32 (UV a.key)),Ii a.cols0,Ii a.cols1,Ii a.cols2],fun _=>rfl⟩
@[reducible] def IsRw (a:Rw):VP:=IsAgg (tRw.cells a)
def Rw.nil:Rw:=⟨0#32,0,0,0⟩
structure Vs where
 row:Rw
 deleted:Bool
 epoch:BitVec 32
 stamp:BitVec 64
 prev:Pt
def tVs:Ty Vs:=⟨9,fun a=>[Is (.int .u32 (UV a.row.key)),Ii a.row.cols0,Ii a.row.cols1,Ii a.row.cols2,Ib a.deleted,Is (.int .u32 (UV a.epoch)),Iw a.stamp,Ii a.prev.line,Ii a.prev.gen],fun _=>rfl⟩
@[reducible] def IsVs (a:Vs):VP:=IsAgg (tVs.cells a)
def Vs.nil:Vs:=⟨Rw.nil,false,0#32,0#64,Pt.nil⟩
structure O23 where
 code:Int
 found:Bool
 done:Bool
 split:Bool
 hint:Bool
 deep:Bool
 to:Pt
 check:List Int
 hops:Int
 fresh:Int
def tO23:Ty O23:=⟨11,fun a=>[Ii a.code,Ib a.found,Ib a.done,Ib a.split,Ib a.hint,Ib a.deep,Ii a.to.line,Ii a.to.gen,qad qaw a.check,Ii a.hops,Ii a.fresh],fun _=>rfl⟩
@[reducible] def qyf (a:O23):VP:=IsAgg (tO23.cells a)
def O23.nil:O23:=⟨0,false,false,false,false,false,Pt.nil,[],0,0⟩
structure S23 where
 need:List Int
 writes:List Pg
 out:O23
 over:Bool
def tS23:Ty S23:=⟨14,fun a=>[qad qaw a.need,qad tPg a.writes,Ii a.out.code,Ib a.out.found,Ib a.out.done,Ib a.out.split,Ib a.out.hint,Ib a.out.deep,Ii a.out.to.line,Ii a.out.to.gen,qad qaw a.out.check,Ii a.out.hops,Ii a.out.fresh,Ib a.over],fun _=>rfl⟩
@[reducible] def IsS23 (a:S23):VP:=IsAgg (tS23.cells a)
def qqu (B:Nat):Ty S23:=⟨14,fun a=>[qad qaw a.need,qa9 B (qad tPg a.writes),Ii a.out.code,Ib a.out.found,Ib a.out.done,Ib a.out.split,Ib a.out.hint,Ib a.out.deep,Ii a.out.to.line,Ii a.out.to.gen,qad qaw a.out.check,Ii a.out.hops,Ii a.out.fresh,Ib a.over],fun _=>rfl⟩
@[reducible] def qqk (B:Nat) (a:S23):VP:=IsAgg ((qqu B).cells a)
def S23.nil:S23:=⟨[],[],O23.nil,false⟩
structure P23 where
 need:List Int
 empty:Bool
 page:Pg
 bucket:Bk
 out:O23
def tP23:Ty P23:=⟨27,fun a=>[qad qaw a.need,Ib a.empty,Ii a.page.l,Iw a.page.h,Iw a.page.d0,Iw a.page.d1,Iw a.page.d2,Iw a.page.d3,Iw a.page.d4,Iw a.page.d5,Iw a.page.d6,Ii a.bucket.depth,Is (.int .u32 (UV a.bucket.pat)),Ii a.bucket.next.line,Ii a.bucket.next.gen,qad tEn a.bucket.es,Ii a.out.code,Ib a.out.found,Ib a.out.done,Ib a.out.split,Ib a.out.hint,Ib a.out.deep,Ii a.out.to.line,Ii a.out.to.gen,qad qaw a.out.check,Ii a.out.hops,Ii a.out.fresh],fun _=>rfl⟩
@[reducible] def IsP23 (a:P23):VP:=IsAgg (tP23.cells a)
def P23.nil:P23:=⟨[],false,⟨0,0#64,0#64,0#64,0#64,0#64,0#64,0#64,0#64⟩,Bk.nil,O23.nil⟩
structure N24 where
 level:Int
 leftmost:Bool
 dead:Bool
 high:BitVec 32
 right:Pt
 entries:List En
def tN24:Ty N24:=⟨7,fun a=>[Ii a.level,Ib a.leftmost,Ib a.dead,Is (.int .u32 (UV a.high)),Ii a.right.line,Ii a.right.gen,qad tEn a.entries],fun _=>rfl⟩
@[reducible] def qyg (a:N24):VP:=IsAgg (tN24.cells a)
def N24.nil:N24:=⟨0,false,false,0#32,Pt.nil,[]⟩
structure Op24 where
 kind:Int
 key:BitVec 32
 last:BitVec 32
 to:Pt
 level:Int
 limit:Int
 fresh:List Pg
def tOp24:Ty Op24:=⟨8,fun a=>[Ii a.kind,Is (.int .u32 (UV a.key)),Is (.int .u32 (UV a.last)),Ii a.to.line,Ii a.to.gen,Ii a.level,Ii a.limit,qad tPg a.fresh],fun _=>rfl⟩
@[reducible] def qom (a:Op24):VP:=IsAgg (tOp24.cells a)
def Op24.nil:Op24:=⟨0,0#32,0#32,Pt.nil,0,0,[]⟩
structure O24 where
 code:Int
 found:Bool
 done:Bool
 split:Bool
 unposted:Bool
 dead:Bool
 more:Bool
 to:Pt
 entries:List En
 check:List Int
 hops:Int
 fresh:Int
 height:Int
def tO24:Ty O24:=⟨14,fun a=>[Ii a.code,Ib a.found,Ib a.done,Ib a.split,Ib a.unposted,Ib a.dead,Ib a.more,Ii a.to.line,Ii a.to.gen,qad tEn a.entries,qad qaw a.check,Ii a.hops,Ii a.fresh,Ii a.height],fun _=>rfl⟩
@[reducible] def qye (a:O24):VP:=IsAgg (tO24.cells a)
def O24.nil:O24:=⟨0,false,false,false,false,false,false,Pt.nil,[],[],0,0,0⟩
structure S24 where
 need:List Int
 writes:List Pg
 out:O24
 over:Bool
def tS24:Ty S24:=⟨17,fun a=>[qad qaw a.need,qad tPg a.writes,Ii a.out.code,Ib a.out.found,Ib a.out.done,Ib a.out.split,Ib a.out.unposted,Ib a.out.dead,Ib a.out.more,Ii a.out.to.line,Ii a.out.to.gen,qad tEn a.out.entries,qad qaw a.out.check,Ii a.out.hops,Ii a.out.fresh,Ii a.out.height,Ib a.over],fun _=>rfl⟩
def qt1 (B:Nat):Ty S24:=⟨17,fun a=>[qad qaw a.need,qa9 B (qad tPg a.writes),Ii a.out.code,Ib a.out.found,Ib a.out.done,Ib a.out.split,Ib a.out.unposted,Ib a.out.dead,Ib a.out.more,Ii a.out.to.line,Ii a.out.to.gen,qad tEn a.out.entries,qad qaw a.out.check,Ii a.out.hops,Ii a.out.fresh,Ii a.out.height,Ib a.over],fun _=>rfl⟩
@[reducible] def qki (B:Nat) (a:S24):VP:=IsAgg ((qt1 B).cells a)
def S24.nil:S24:=⟨[],[],O24.nil,false⟩
structure P24 where
 need:List Int
 noTree:Bool
 none:Bool
 code:Int
 page:Pg
 node:N24
 top:N24
 hops:Int
 unposted:Bool
 dead:Bool
def tP24:Ty P24:=⟨30,fun a=>[qad qaw a.need,Ib a.noTree,Ib a.none,Ii a.code,Ii a.page.l,Iw a.page.h,Iw a.page.d0,Iw a.page.d1,Iw a.page.d2,Iw a.page.d3,Iw a.page.d4,Iw a.page.d5,Iw a.page.d6,Ii a.node.level,Ib a.node.leftmost,Ib a.node.dead,Is (.int .u32 (UV a.node.high)),Ii a.node.right.line,Ii a.node.right.gen,qad tEn a.node.entries,Ii a.top.level,Ib a.top.leftmost,Ib a.top.dead,Is (.int .u32 (UV a.top.high)),Ii a.top.right.line,Ii a.top.right.gen,qad tEn a.top.entries,Ii a.hops,Ib a.unposted,Ib a.dead],fun _=>rfl⟩
@[reducible] def qwa (a:P24):VP:=IsAgg (tP24.cells a)
def P24.nil:P24:=⟨[],false,false,0,⟨0,0#64,0#64,0#64,0#64,0#64,0#64,0#64,0#64⟩,N24.nil,N24.nil,0,false,false⟩
structure Ep26 where
 kind:Int
 client:Int
 inc:Int
 lines:Int
 for_:Int
 list:List Pt
def tEp26:Ty Ep26:=⟨6,fun a=>[Ii a.kind,Ii a.client,Ii a.inc,Ii a.lines,Ii a.for_,qad tPt a.list],fun _=>rfl⟩
@[reducible] def qr8 (a:Ep26):VP:=IsAgg (tEp26.cells a)
def Ep26.nil:Ep26:=⟨0,0,0,0,0,[]⟩
structure EO26 where
 code:Int
 epoch:BitVec 32
 blocker:Int
 freed:List Pt
 check:List Int
def tEO26:Ty EO26:=⟨5,fun a=>[Ii a.code,Is (.int .u32 (UV a.epoch)),Ii a.blocker,qad tPt a.freed,qad qaw a.check],fun _=>rfl⟩
@[reducible] def IsEO26 (a:EO26):VP:=IsAgg (tEO26.cells a)
def EO26.nil:EO26:=⟨0,0#32,0,[],[]⟩
structure ES26 where
 need:List Int
 writes:List Pg
 out:EO26
 over:Bool
 locked:Bool
def tES26:Ty ES26:=⟨9,fun a=>[qad qaw a.need,qad tPg a.writes,Ii a.out.code,Is (.int .u32 (UV a.out.epoch)),Ii a.out.blocker,qad tPt a.out.freed,qad qaw a.out.check,Ib a.over,Ib a.locked],fun _=>rfl⟩
def zc2 (B:Nat):Ty ES26:=⟨9,fun a=>[qad qaw a.need,qa9 B (qad tPg a.writes),Ii a.out.code,Is (.int .u32 (UV a.out.epoch)),Ii a.out.blocker,qad tPt a.out.freed,qad qaw a.out.check,Ib a.over,Ib a.locked],fun _=>rfl⟩
@[reducible] def qql (B:Nat) (a:ES26):VP:=IsAgg ((zc2 B).cells a)
def ES26.nil:ES26:=⟨[],[],EO26.nil,false,false⟩
structure Cu where
 phase:Int
 level:Int
 key:BitVec 32
def tCu:Ty Cu:=⟨3,fun a=>[Ii a.phase,Ii a.level,Is (.int .u32 (UV a.key))],fun _=>rfl⟩
@[reducible] def IsCu (a:Cu):VP:=IsAgg (tCu.cells a)
def Cu.nil:Cu:=⟨0,0,0#32⟩
structure SO26 where
 code:Int
 next:Cu
 did:Bool
 check:List Int
def tSO26:Ty SO26:=⟨6,fun a=>[Ii a.code,Ii a.next.phase,Ii a.next.level,Is (.int .u32 (UV a.next.key)),Ib a.did,qad qaw a.check],fun _=>rfl⟩
def SO26.nil:SO26:=⟨0,Cu.nil,false,[]⟩
structure SS26 where
 need:List Int
 writes:List Pg
 out:SO26
 over:Bool
def tSS26:Ty SS26:=⟨9,fun a=>[qad qaw a.need,qad tPg a.writes,Ii a.out.code,Ii a.out.next.phase,Ii a.out.next.level,Is (.int .u32 (UV a.out.next.key)),Ib a.out.did,qad qaw a.out.check,Ib a.over],fun _=>rfl⟩
def zc1 (B:Nat):Ty SS26:=⟨9,fun a=>[qad qaw a.need,qa9 B (qad tPg a.writes),Ii a.out.code,Ii a.out.next.phase,Ii a.out.next.level,Is (.int .u32 (UV a.out.next.key)),Ib a.out.did,qad qaw a.out.check,Ib a.over],fun _=>rfl⟩
@[reducible] def qkh (B:Nat) (a:SS26):VP:=IsAgg ((zc1 B).cells a)
def SS26.nil:SS26:=⟨[],[],SO26.nil,false⟩
structure Co where
 col:Int
 op:Int
 value:Int
def tCo:Ty Co:=⟨3,fun a=>[Ii a.col,Ii a.op,Ii a.value],fun _=>rfl⟩
def Co.nil:Co:=⟨0,0,0⟩
structure St29 where
 kind:Int
 key:BitVec 32
 last:BitVec 32
 cols0:Int
 cols1:Int
 cols2:Int
 col:Int
 value:Int
 where_:Co
 limit:Int
def tSt29:Ty St29:=⟨12,fun a=>[Ii a.kind,Is (.int .u32 (UV a.key)),Is (.int .u32 (UV a.last)),Ii a.cols0,Ii a.cols1,Ii a.cols2,Ii a.col,Ii a.value,Ii a.where_.col,Ii a.where_.op,Ii a.where_.value,Ii a.limit],fun _=>rfl⟩
@[reducible] def qqj (a:St29):VP:=IsAgg (tSt29.cells a)
def St29.nil:St29:=⟨0,0#32,0#32,0,0,0,0,0,Co.nil,0⟩
structure Rs29 where
 rows:List Rw
 number:Int
def tRs29:Ty Rs29:=⟨2,fun a=>[qad tRw a.rows,Ii a.number],fun _=>rfl⟩
@[reducible] def IsRs29 (a:Rs29):VP:=IsAgg (tRs29.cells a)
def Rs29.nil:Rs29:=⟨[],0⟩
structure J31 where
 client:Int
 seq:Int
 lines:Int
 program:List St29
 access:List Int
 snapshot:Bool
 vector0:BitVec 64
 vector1:BitVec 64
 vector2:BitVec 64
 vector3:BitVec 64
 vector4:BitVec 64
 vector5:BitVec 64
def tJ31:Ty J31:=⟨12,fun a=>[Ii a.client,Ii a.seq,Ii a.lines,qad tSt29 a.program,qad qaw a.access,Ib a.snapshot,Iw a.vector0,Iw a.vector1,Iw a.vector2,Iw a.vector3,Iw a.vector4,Iw a.vector5],fun _=>rfl⟩
@[reducible] def IsJ31 (a:J31):VP:=IsAgg (tJ31.cells a)
def J31.nil:J31:=⟨0,0,0,[],[],false,0#64,0#64,0#64,0#64,0#64,0#64⟩
structure O31 where
 code:Int
 statement:Int
 want:Int
 results:List Rs29
 check:List Int
 hint:Bool
 deep:Bool
 unposted:Bool
 dead:Bool
def tO31:Ty O31:=⟨9,fun a=>[Ii a.code,Ii a.statement,Ii a.want,qad tRs29 a.results,qad qaw a.check,Ib a.hint,Ib a.deep,Ib a.unposted,Ib a.dead],fun _=>rfl⟩
def O31.nil:O31:=⟨0,0,0,[],[],false,false,false,false⟩
structure S31 where
 need:List Int
 writes:List Pg
 out:O31
 over:Bool
def tS31:Ty S31:=⟨12,fun a=>[qad qaw a.need,qad tPg a.writes,Ii a.out.code,Ii a.out.statement,Ii a.out.want,qad tRs29 a.out.results,qad qaw a.out.check,Ib a.out.hint,Ib a.out.deep,Ib a.out.unposted,Ib a.out.dead,Ib a.over],fun _=>rfl⟩
def tS31F (B:Nat):Ty S31:=⟨12,fun a=>[qad qaw a.need,qa9 B (qad tPg a.writes),Ii a.out.code,Ii a.out.statement,Ii a.out.want,qad tRs29 a.out.results,qad qaw a.out.check,Ib a.out.hint,Ib a.out.deep,Ib a.out.unposted,Ib a.out.dead,Ib a.over],fun _=>rfl⟩
def S31.nil:S31:=⟨[],[],O31.nil,false⟩
structure Run31 where
 job:J31
 known:List Pg
 w:List Pg
 c:List Int
 need:List Int
 code:Int
 out:O31
def tRun31:Ty Run31:=⟨26,fun a=>[Ii a.job.client,Ii a.job.seq,Ii a.job.lines,qad tSt29 a.job.program,qad qaw a.job.access,Ib a.job.snapshot,Iw a.job.vector0,Iw a.job.vector1,Iw a.job.vector2,Iw a.job.vector3,Iw a.job.vector4,Iw a.job.vector5,qad tPg a.known,qad tPg a.w,qad qaw a.c,qad qaw a.need,Ii a.code,Ii a.out.code,Ii a.out.statement,Ii a.out.want,qad tRs29 a.out.results,qad qaw a.out.check,Ib a.out.hint,Ib a.out.deep,Ib a.out.unposted,Ib a.out.dead],fun _=>rfl⟩
def tRun31F (B:Nat):Ty Run31:=⟨26,fun a=>[Ii a.job.client,Ii a.job.seq,Ii a.job.lines,qad tSt29 a.job.program,qad qaw a.job.access,Ib a.job.snapshot,Iw a.job.vector0,Iw a.job.vector1,Iw a.job.vector2,Iw a.job.vector3,Iw a.job.vector4,Iw a.job.vector5,qad tPg a.known,qa9 B (qad tPg a.w),qad qaw a.c,qad qaw a.need,Ii a.code,Ii a.out.code,Ii a.out.statement,Ii a.out.want,qad tRs29 a.out.results,qad qaw a.out.check,Ib a.out.hint,Ib a.out.deep,Ib a.out.unposted,Ib a.out.dead],fun _=>rfl⟩
def Run31.nil:Run31:=⟨J31.nil,[],[],[],[],0,O31.nil⟩
structure Fd31 where
 head:Bool
 page:Pg
 version:Vs
 there:Bool
def tFd31:Ty Fd31:=⟨20,fun a=>[Ib a.head,Ii a.page.l,Iw a.page.h,Iw a.page.d0,Iw a.page.d1,Iw a.page.d2,Iw a.page.d3,Iw a.page.d4,Iw a.page.d5,Iw a.page.d6,Is (.int .u32 (UV a.version.row.key)),Ii a.version.row.cols0,Ii a.version.row.cols1,Ii a.version.row.cols2,Ib a.version.deleted,Is (.int .u32 (UV a.version.epoch)),Iw a.version.stamp,Ii a.version.prev.line,Ii a.version.prev.gen,Ib a.there],fun _=>rfl⟩
@[reducible] def IsFd31 (a:Fd31):VP:=IsAgg (tFd31.cells a)
def Fd31.nil:Fd31:=⟨false,⟨0,0#64,0#64,0#64,0#64,0#64,0#64,0#64,0#64⟩,Vs.nil,false⟩
structure Acn where
 kind:Int
 client:Int
 key:Int
 a:Int
 b:Int
 n:Int
def tAct:Ty Acn:=⟨6,fun a=>[Ii a.kind,Ii a.client,Ii a.key,Ii a.a,Ii a.b,Ii a.n],fun _=>rfl⟩
@[reducible] def IsAct (a:Acn):VP:=IsAgg (tAct.cells a)
def Acn.nil:Acn:=⟨0,0,0,0,0,0⟩
structure Hp where
 pages:List Pg
 lines:Int
 seq:Int
 table:List Rw
 cursor:Cu
def tHp:Ty Hp:=⟨7,fun a=>[qad tPg a.pages,Ii a.lines,Ii a.seq,qad tRw a.table,Ii a.cursor.phase,Ii a.cursor.level,Is (.int .u32 (UV a.cursor.key))],fun _=>rfl⟩
def Hp.nil:Hp:=⟨[],0,0,[],Cu.nil⟩
structure S8 where
 s0:Pt
 s1:Pt
 s2:Pt
 s3:Pt
 s4:Pt
 s5:Pt
 s6:Pt
 s7:Pt
 deriving DecidableEq
def tS8:Ty S8:=⟨16,fun s=>[Ii s.s0.line,Ii s.s0.gen,Ii s.s1.line,Ii s.s1.gen,Ii s.s2.line,Ii s.s2.gen,Ii s.s3.line,Ii s.s3.gen,Ii s.s4.line,Ii s.s4.gen,Ii s.s5.line,Ii s.s5.gen,Ii s.s6.line,Ii s.s6.gen,Ii s.s7.line,Ii s.s7.gen],fun _=>rfl⟩
@[reducible] def qtu (s:S8):VP:=IsAgg (tS8.cells s)
def S8.cells (s:S8):List Value:=[.int .i64 s.s0.line,.int .i64 s.s0.gen,.int .i64 s.s1.line,.int .i64 s.s1.gen,.int .i64 s.s2.line,.int .i64 s.s2.gen,.int .i64 s.s3.line,.int .i64 s.s3.gen,.int .i64 s.s4.line,.int .i64 s.s4.gen,.int .i64 s.s5.line,.int .i64 s.s5.gen,.int .i64 s.s6.line,.int .i64 s.s6.gen,.int .i64 s.s7.line,.int .i64 s.s7.gen]
def S8.nil:S8:=⟨Pt.nil,Pt.nil,Pt.nil,Pt.nil,Pt.nil,Pt.nil,Pt.nil,Pt.nil⟩
theorem qbx {a b:List VP} (h:a=b:=by (first|((simp only [tPg,tU64,qaw,tPt,tHd,tRe,tNd,tRt,tS8,tEn,tBk,tS19,tRw,tVs,tO23,tS23,tP23,tN24,tOp24,tO24,tS24,tP24,tEp26,tEO26,tES26,tCu,tSO26,tSS26,tCo,tSt29,tRs29,tJ31,tO31,tS31,tRun31,tFd31,tHp,tS19F,qqu,qt1,zc2,zc1,tS31F,tRun31F,qen,Nat.reduceMul,Nat.reduceAdd,Value.cells,ovr,List.set_cons_succ,List.set_cons_zero,List.map_cons,List.map_nil,List.drop_succ_cons,List.drop_zero,List.take_succ_cons,List.take_zero,List.flatMap_cons,List.flatMap_nil,List.append_nil,List.cons_append,List.nil_append,List.toList_toArray]);(try exact rfl))|exact rfl)):a=b:=h
theorem offT {x k:Nat} (h:x=k:=by first|exact (rfl:_=0)|exact (rfl:_=1)|exact (rfl:_=2)|exact (rfl:_=3)|exact (rfl:_=4)|exact (rfl:_=5)|exact (rfl:_=6)|exact (rfl:_=7)|exact (rfl:_=8)|exact (rfl:_=9)|exact (rfl:_=10)|exact (rfl:_=11)|exact (rfl:_=12)|exact (rfl:_=13)|exact (rfl:_=14)|exact (rfl:_=15)|exact (rfl:_=16)|exact (rfl:_=17)|exact (rfl:_=18)|exact (rfl:_=19)|exact (rfl:_=20)|exact (rfl:_=21)|exact (rfl:_=22)|exact (rfl:_=23)|exact (rfl:_=24)|exact (rfl:_=25)|exact (rfl:_=26)|exact (rfl:_=27)|exact (rfl:_=28)|exact (rfl:_=29)|exact (rfl:_=30)|exact (rfl:_=31)|exact (rfl:_=32)|exact (rfl:_=33)|exact (rfl:_=34)|exact (rfl:_=35)|exact (rfl:_=36)|exact (rfl:_=37)|exact (rfl:_=38)|exact (rfl:_=39)):x=k:=h
theorem qvr {n s:Nat} {As:List VP}:qde (qem n s As) [qem n s As]:=fun φ v ⟨b,e,k⟩=>⟨[v],by rw [e];rfl,⟨⟨b,e,k⟩,trivial⟩,by rw [e];exact qje rfl⟩
theorem zab {B:Nat} {α:Type} {T:Ty α} {xs:List α}:qde (qa9 B (qad T xs)) [qa9 B (qad T xs)]:=fun φ v h=>by
 obtain ⟨a,n,cp,e,k⟩:=h;exact ⟨[v],by rw [e];rfl,⟨⟨a,n,cp,e,k⟩,trivial⟩,by rw [e];exact qje rfl⟩
theorem qrz {b:Bool} {n s:Nat} {As:List VP} {α:Type} {T:Ty α} {xs:List α}:qde (qdi b (qem n s As) (qad T xs)) [qdi b (qem n s As) (qad T xs)]:=fun φ v h=>by
 refine ⟨[v],?_,⟨h,trivial⟩,?_⟩
 ·cases b
  ·obtain ⟨a,m,cp,e,_⟩:(qad T xs).ok φ v:=h;rw [e];rfl
  ·obtain ⟨a,e,_⟩:(qem n s As).ok φ v:=h;rw [e];rfl
 ·cases b
  ·obtain ⟨a,m,cp,e,_⟩:(qad T xs).ok φ v:=h;rw [e];exact qje rfl
  ·obtain ⟨a,e,_⟩:(qem n s As).ok φ v:=h;rw [e];exact qje rfl
theorem qcu {A:VP} {As:List VP} (h:qde A As:=by first|exact qp8|exact qth rfl|exact qtg|exact qvr|exact zab|exact qrz|exact qp6|exact qp7 rfl):qde A As:=h
theorem asT {p:Prop} (h:p:=by with_reducible assumption):p:=h
theorem szT {x:Option Nat} {n:Nat} (h:x=some n:=by first|exact (rfl:_=some 9)|exact (rfl:_=some 2)|exact (rfl:_=some 14)|exact (rfl:_=some 11)|exact (rfl:_=some 3)|exact (rfl:_=some 30)|exact (rfl:_=some 7)|exact (rfl:_=some 16)|exact (rfl:_=some 5)|exact (rfl:_=some 15)|exact (rfl:_=some 4)|exact (rfl:_=some 20)|exact (rfl:_=some 12)|exact (rfl:_=some 8)|exact (rfl:_=some 6)|exact (rfl:_=some 17)|exact (rfl:_=some 27)|exact (rfl:_=some 1)|exact (rfl:_=some 10)|exact (rfl:_=some 13)|exact (rfl:_=some 18)|exact (rfl:_=some 19)|exact (rfl:_=some 21)|exact (rfl:_=some 22)|exact (rfl:_=some 23)|exact (rfl:_=some 24)|exact (rfl:_=some 25)|exact (rfl:_=some 26)|exact (rfl:_=some 28)|exact (rfl:_=some 29)):x=some n:=h
theorem offI {x:Int} {k:Nat} (h:x=k:=by first|exact (rfl:_=((0:Nat):Int))|exact (rfl:_=((1:Nat):Int))|exact (rfl:_=((2:Nat):Int))|exact (rfl:_=((3:Nat):Int))|exact (rfl:_=((4:Nat):Int))|exact (rfl:_=((5:Nat):Int))|exact (rfl:_=((6:Nat):Int))|exact (rfl:_=((7:Nat):Int))|exact (rfl:_=((8:Nat):Int))):x=k:=h
inductive PartsI (A:Nat->Option VP) (L:List Item):List (Nat×Operand)->List (Nat×List VP)->Prop
 | nil:PartsI A L [] []
 | cons {i:Nat} {x:Operand} {D:VP} {Bs:List VP} {l:List (Nat×Operand)} {m:List (Nat×List VP)} (hx:Ev A L x D) (hD:qde D Bs) (h:PartsI A L l m):PartsI A L ((i,x)::l) ((i,Bs)::m)
theorem PartsI.e {A:Nat->Option VP} {L:List Item} {l:List (Nat×Operand)} {m:List (Nat×List VP)} (h:PartsI A L l m):PartsE A L l m:=by
 induction h with
 | nil=>exact trivial
 | cons hx hD _ ih=>exact ⟨⟨rfl,_,hx,hD⟩,ih⟩
theorem partsT {A:Nat->Option VP} {L:List Item} {l:List (Nat×Operand)} {m:List (Nat×List VP)} (h:PartsI A L l m:=by first|exact PartsI.nil|exact (PartsI.cons (er rfl) qcu PartsI.nil)|exact (PartsI.cons (er rfl) qcu (PartsI.cons (er rfl) qcu PartsI.nil))|exact (PartsI.cons (er rfl) qcu (PartsI.cons (er rfl) qcu (PartsI.cons (er rfl) qcu PartsI.nil)))|exact (PartsI.cons (er rfl) qcu (PartsI.cons (er rfl) qcu (PartsI.cons (er rfl) qcu (PartsI.cons (er rfl) qcu PartsI.nil))))|exact (PartsI.cons (er rfl) qcu (PartsI.cons (er rfl) qcu (PartsI.cons (er rfl) qcu (PartsI.cons (er rfl) qcu (PartsI.cons (er rfl) qcu PartsI.nil)))))|exact (PartsI.cons (er rfl) qcu (PartsI.cons (er rfl) qcu (PartsI.cons (er rfl) qcu (PartsI.cons (er rfl) qcu (PartsI.cons (er rfl) qcu (PartsI.cons (er rfl) qcu PartsI.nil))))))|exact (PartsI.cons (er rfl) qcu (PartsI.cons (er rfl) qcu (PartsI.cons (er rfl) qcu (PartsI.cons (er rfl) qcu (PartsI.cons (er rfl) qcu (PartsI.cons (er rfl) qcu (PartsI.cons (er rfl) qcu PartsI.nil)))))))|exact (PartsI.cons (er rfl) qcu (PartsI.cons (er rfl) qcu (PartsI.cons (er rfl) qcu (PartsI.cons (er rfl) qcu (PartsI.cons (er rfl) qcu (PartsI.cons (er rfl) qcu (PartsI.cons (er rfl) qcu (PartsI.cons (er rfl) qcu PartsI.nil))))))))):PartsI A L l m:=h
theorem qut {P:Program} {c:Ctx} {A:Nat->Option VP} {L:List Item} {d:Option Tmp} {ty:TypeId} {pos:String} {af:Array Edge} {g:Option (Nat×Bool)} {t:TypeId} {ps:Array (Nat×Operand)} {fs:List Field} {zs:List Value} {pl:List (Nat×Nat)} {qs:List (Nat×List VP)} {Rs0 Rs:List VP} (hu:P.underlying t=some (.struct fs.toArray)) (hz:(P.info? t).map (·.zero)=some (some (.agg zs.toArray))) (h1:(zs.all Value.oneCell')=true)
  (hpl:qjz P fs=some pl) (hq:PartsI A L ps.toList qs) (hf:qlz (fun i=>pl[i]?) (zs.map Is) qs=some Rs0) (hR:Rs0=Rs):OpP P c ⟨d,.build t ps,ty,pos,af,g⟩ A L (IsAgg Rs):=qix hu hz h1 hpl hq.e hf hR
theorem opF {P:Program} {c:Ctx} {o:Oper} {A:Nat->Option VP} {L:List Item} {F:VP} (h:OpP P c o A L F:=by first|((with_reducible show OpP _ _ ⟨_,.move _,_,_,_,_⟩ _ _ _);exact qeq rfl)|((with_reducible show OpP _ _ ⟨_,.assign _,_,_,_,_⟩ _ _ _);exact quu rfl)|((with_reducible show OpP _ _ ⟨_,.extract _ _,_,_,_,_⟩ _ _ _);exact qdr (er rfl) rfl)|((with_reducible show OpP _ _ ⟨_,.nilCheck _,_,_,_,_⟩ _ _ _);(first|exact qeh (er rfl)|exact qum (er rfl)))|((with_reducible show OpP _ _ ⟨_,.fieldAddr _ _ _,_,_,_,_⟩ _ _ _);(first|exact qbe (er rfl) rfl rfl rfl offT|exact qa0 (er rfl) rfl rfl rfl offT qbx))|((with_reducible show OpP _ _ ⟨_,.load _ _,_,_,_,_⟩ _ _ _);(first|exact qcj (er rfl) rfl rfl rfl|exact qc8 (er rfl) qba rf rf rf|exact qa3 (er rfl) qba rf rf szT rf qbx|exact qa6 (er rfl) rfl rfl szT rf qbx))|((with_reducible show OpP _ _ ⟨_,.binOp .eql _ _ _ _,_,_,_,_⟩ _ _ _);(first|exact op_eql (er rfl) (er rfl)|exact qza (er rfl) rfl|exact op_beq rfl (er rfl) (er rfl)))|((with_reducible show OpP _ _ ⟨_,.binOp .neq _ _ _ _,_,_,_,_⟩ _ _ _);(first|exact qy6 (er rfl) (er rfl)|exact op_bne rfl (er rfl) (er rfl)))|((with_reducible show OpP _ _ ⟨_,.binOp .add _ _ _ _,_,_,_,_⟩ _ _ _);(first|exact qfo (op:=.add) qhh qhh (qqb _ _ _)|exact qfo (op:=.add) qn0 qn0 (zge _ _ _)|exact qms (er rfl) (er rfl) qjq))|((with_reducible show OpP _ _ ⟨_,.binOp .lss _ _ _ _,_,_,_,_⟩ _ _ _);exact qy7 (er rfl) (er rfl))|((with_reducible show OpP _ _ ⟨_,.binOp .leq _ _ _ _,_,_,_,_⟩ _ _ _);exact qy8 (er rfl) (er rfl))|((with_reducible show OpP _ _ ⟨_,.binOp .gtr _ _ _ _,_,_,_,_⟩ _ _ _);exact qy9 (er rfl) (er rfl))|((with_reducible show OpP _ _ ⟨_,.binOp .geq _ _ _ _,_,_,_,_⟩ _ _ _);exact op_geq (er rfl) (er rfl))|((with_reducible show OpP _ _ ⟨_,.pick _ _ _,_,_,_,_⟩ _ _ _);(first|exact qqy (er rfl) rfl (fun h=>by first|exact SubL.rfl' | exact SubL.iteT (by first|(rw [h];rfl)|(simp_all;done)) SubL.rfl')|exact qrq (er rfl) rfl (fun h=>by first|exact SubL.rfl' | exact SubL.iteT (by first|(rw [h];rfl)|(simp_all;done)) SubL.rfl')|exact zd6 (er rfl) rfl rfl))|((with_reducible show OpP _ _ ⟨_,.unOp .not _ _,_,_,_,_⟩ _ _ _);exact op_not (er rfl))|((with_reducible show OpP _ _ ⟨_,.convert _ _ _,_,_,_,_⟩ _ _ _);exact qhr (er rfl) rfl rfl convT)|((with_reducible show OpP _ _ ⟨_,.call _,_,_,_,_⟩ _ _ _);(first|exact zd8 (er rfl) rfl|exact quq (er rfl) rfl))|((with_reducible show OpP _ _ ⟨_,.binOp .sub _ _ _ _,_,_,_,_⟩ _ _ _);(first|exact qfo (op:=.sub) qhh qhh (zc4 _ _ _)|exact qfo (op:=.sub) qn0 qn0 (zc5 _ _ _)|exact qlk (er rfl) (er rfl) qjq))|((with_reducible show OpP _ _ ⟨_,.binOp .mul _ _ _ _,_,_,_,_⟩ _ _ _);(first|exact qfo (op:=.mul) qhh qhh (zeo _ _ _)|exact qfo (op:=.mul) qn0 qn0 (zep _ _ _)|exact qun (er rfl) (er rfl) qjq))|((with_reducible show OpP _ _ ⟨_,.binOp .quo _ _ _ _,_,_,_,_⟩ _ _ _);exact qiw (er rfl) (er rfl) om qjq)|((with_reducible show OpP _ _ ⟨_,.binOp .rem _ _ _ _,_,_,_,_⟩ _ _ _);exact qiv (er rfl) (er rfl) om rfl)|((with_reducible show OpP _ _ ⟨_,.binOp .and _ _ _ _,_,_,_,_⟩ _ _ _);(first|exact qex (op:=.and) qhh qhh (by simp) (zgc _ _)|exact qex (op:=.and) qn0 qn0 (by simp) (zgd _ _)))|((with_reducible show OpP _ _ ⟨_,.binOp .or _ _ _ _,_,_,_,_⟩ _ _ _);(first|exact qex (op:=.or) qhh qhh (by simp) (or_u64 _ _)|exact qex (op:=.or) qn0 qn0 (by simp) (or_u32 _ _)))|((with_reducible show OpP _ _ ⟨_,.binOp .xor _ _ _ _,_,_,_,_⟩ _ _ _);(first|exact qex (op:=.xor) qhh qhh (by simp) (qwn _ _)|exact qex (op:=.xor) qn0 qn0 (by simp) (zcc _ _)))|((with_reducible show OpP _ _ ⟨_,.binOp .andNot _ _ _ _,_,_,_,_⟩ _ _ _);exact qex (op:=.andNot) qhh qhh (by simp) (qr2 _ _))|((with_reducible show OpP _ _ ⟨_,.binOp _ _ _ _ _,_,_,_,_⟩ _ _ _);exact qex (er rfl) (er rfl) (by simp) rfl)|((with_reducible show OpP _ _ ⟨_,.binOp .shl _ _ _ _,_,_,_,_⟩ _ _ _);(first|exact qeg (k:=_) qhh (er rfl) (by first|omega|exact qa2 _) qdh|exact qev (k:=_) qn0 (er rfl) (by first|omega|exact qa2 _) qdh|exact qmp (er rfl) (er rfl) (by first|omega|exact qa2 _) rfl))|((with_reducible show OpP _ _ ⟨_,.binOp .shr _ _ _ _,_,_,_,_⟩ _ _ _);(first|exact qhq (k:=_) qhh (er rfl) (by first|omega|exact qa2 _) qdh|exact qgo (k:=_) qn0 (er rfl) (by first|omega|exact qa2 _) qdh|exact qps (er rfl) (er rfl) (by first|omega|exact qa2 _) rfl))|((with_reducible show OpP _ _ ⟨_,.unOp .neg _ _,_,_,_,_⟩ _ _ _);exact op_neg (er rfl) qjq)|((with_reducible show OpP _ _ ⟨_,.unOp .xor _ _,_,_,_,_⟩ _ _ _);exact qzb (er rfl) rfl)|((with_reducible show OpP _ _ ⟨_,.field _ _ _,_,_,_,_⟩ _ _ _);exact qrp (er rfl) rfl rfl rfl rfl rfl)|((with_reducible show OpP _ _ ⟨_,.build _ _,_,_,_,_⟩ _ _ _);exact qut rfl rfl rfl rfl partsT rf qbx)|((with_reducible show OpP _ _ ⟨_,.indexAddr _ _ _,_,_,_,_⟩ _ _ _);first|exact qak (j:=_) (er rfl) (er rfl) rfl rfl rf asT|exact qah (er rfl) (er rfl) rfl szT offI de)):OpP P c o A L F:=h
theorem opG {P:Program} {c:Ctx} {o:Oper} {A:Nat->Option VP} {L:List Item} {F:VP} (h:OpP P c o A L F:=by first|((with_reducible show OpP _ _ ⟨_,.move _,_,_,_,_⟩ _ _ _);(first|exact qku (Ev.sub rfl (SubL.iteT (by first|assumption|(simp;done)|(simp;omega)|(simp_all;done)) SubL.rfl'))|exact qku (er rfl)))|((with_reducible show OpP _ _ ⟨_,.assign _,_,_,_,_⟩ _ _ _);(first|exact qup (Ev.sub rfl (SubL.iteT (by first|assumption|(simp;done)|(simp;omega)|(simp_all;done)) SubL.rfl'))|exact qup (er rfl)))|((with_reducible show OpP _ _ ⟨_,.extract _ _,_,_,_,_⟩ _ _ _);exact qdr evG rfl)|((with_reducible show OpP _ _ ⟨_,.nilCheck _,_,_,_,_⟩ _ _ _);(first|exact qeh evG|exact qum evG))|((with_reducible show OpP _ _ ⟨_,.fieldAddr _ _ _,_,_,_,_⟩ _ _ _);(first|exact qbe evG rfl rfl rfl offT|exact qa0 evG rfl rfl rfl offT qbx))|((with_reducible show OpP _ _ ⟨_,.load _ _,_,_,_,_⟩ _ _ _);(first|exact qcj evG rfl rfl rfl|exact qc8 evG qba rf rf rf|exact qa3 evG qba rf rf szT rf qbx|exact qa6 evG rfl rfl szT rf qbx))|((with_reducible show OpP _ _ ⟨_,.binOp .eql _ _ _ _,_,_,_,_⟩ _ _ _);(first|exact op_eql evG evG|exact qza evG rfl|exact op_beq rfl evG evG))|((with_reducible show OpP _ _ ⟨_,.binOp .neq _ _ _ _,_,_,_,_⟩ _ _ _);(first|exact qy6 evG evG|exact op_bne rfl evG evG))|((with_reducible show OpP _ _ ⟨_,.binOp .add _ _ _ _,_,_,_,_⟩ _ _ _);(first|exact qfo (op:=.add) qjv qjv (qqb _ _ _)|exact qfo (op:=.add) qlc qlc (zge _ _ _)|exact qms evG evG qjq))|((with_reducible show OpP _ _ ⟨_,.binOp .lss _ _ _ _,_,_,_,_⟩ _ _ _);exact qy7 evG evG)|((with_reducible show OpP _ _ ⟨_,.binOp .leq _ _ _ _,_,_,_,_⟩ _ _ _);exact qy8 evG evG)|((with_reducible show OpP _ _ ⟨_,.binOp .gtr _ _ _ _,_,_,_,_⟩ _ _ _);exact qy9 evG evG)|((with_reducible show OpP _ _ ⟨_,.binOp .geq _ _ _ _,_,_,_,_⟩ _ _ _);exact op_geq evG evG)|((with_reducible show OpP _ _ ⟨_,.pick _ _ _,_,_,_,_⟩ _ _ _);(first|exact qqy evG rfl (fun h=>by first|exact SubL.rfl' | exact SubL.iteT (by first|(rw [h];rfl)|(simp_all;done)) SubL.rfl')|exact qrq evG rfl (fun h=>by first|exact SubL.rfl' | exact SubL.iteT (by first|(rw [h];rfl)|(simp_all;done)) SubL.rfl')|exact zd6 evG rfl rfl))|((with_reducible show OpP _ _ ⟨_,.unOp .not _ _,_,_,_,_⟩ _ _ _);exact op_not evG)|((with_reducible show OpP _ _ ⟨_,.convert _ _ _,_,_,_,_⟩ _ _ _);exact qhr evG rfl rfl convT)|((with_reducible show OpP _ _ ⟨_,.call _,_,_,_,_⟩ _ _ _);(first|exact zd8 evG rfl|exact quq evG rfl))|((with_reducible show OpP _ _ ⟨_,.binOp .sub _ _ _ _,_,_,_,_⟩ _ _ _);(first|exact qfo (op:=.sub) qjv qjv (zc4 _ _ _)|exact qfo (op:=.sub) qlc qlc (zc5 _ _ _)|exact qlk evG evG qjq))|((with_reducible show OpP _ _ ⟨_,.binOp .mul _ _ _ _,_,_,_,_⟩ _ _ _);(first|exact qfo (op:=.mul) qjv qjv (zeo _ _ _)|exact qfo (op:=.mul) qlc qlc (zep _ _ _)|exact qun evG evG qjq))|((with_reducible show OpP _ _ ⟨_,.binOp .quo _ _ _ _,_,_,_,_⟩ _ _ _);exact qiw evG evG om qjq)|((with_reducible show OpP _ _ ⟨_,.binOp .rem _ _ _ _,_,_,_,_⟩ _ _ _);exact qiv evG evG om rfl)|((with_reducible show OpP _ _ ⟨_,.binOp .and _ _ _ _,_,_,_,_⟩ _ _ _);(first|exact qex (op:=.and) qjv qjv (by simp) (zgc _ _)|exact qex (op:=.and) qlc qlc (by simp) (zgd _ _)))|((with_reducible show OpP _ _ ⟨_,.binOp .or _ _ _ _,_,_,_,_⟩ _ _ _);(first|exact qex (op:=.or) qjv qjv (by simp) (or_u64 _ _)|exact qex (op:=.or) qlc qlc (by simp) (or_u32 _ _)))|((with_reducible show OpP _ _ ⟨_,.binOp .xor _ _ _ _,_,_,_,_⟩ _ _ _);(first|exact qex (op:=.xor) qjv qjv (by simp) (qwn _ _)|exact qex (op:=.xor) qlc qlc (by simp) (zcc _ _)))|((with_reducible show OpP _ _ ⟨_,.binOp .andNot _ _ _ _,_,_,_,_⟩ _ _ _);exact qex (op:=.andNot) qjv qjv (by simp) (qr2 _ _))|((with_reducible show OpP _ _ ⟨_,.binOp _ _ _ _ _,_,_,_,_⟩ _ _ _);exact qex evG evG (by simp) rfl)|((with_reducible show OpP _ _ ⟨_,.binOp .shl _ _ _ _,_,_,_,_⟩ _ _ _);(first|exact qeg (k:=_) qjv evG (by first|omega|exact qa2 _) qdh|exact qev (k:=_) qlc evG (by first|omega|exact qa2 _) qdh|exact qmp evG evG (by first|omega|exact qa2 _) rfl))|((with_reducible show OpP _ _ ⟨_,.binOp .shr _ _ _ _,_,_,_,_⟩ _ _ _);(first|exact qhq (k:=_) qjv evG (by first|omega|exact qa2 _) qdh|exact qgo (k:=_) qlc evG (by first|omega|exact qa2 _) qdh|exact qps evG evG (by first|omega|exact qa2 _) rfl))|((with_reducible show OpP _ _ ⟨_,.unOp .neg _ _,_,_,_,_⟩ _ _ _);exact op_neg evG qjq)|((with_reducible show OpP _ _ ⟨_,.unOp .xor _ _,_,_,_,_⟩ _ _ _);exact qzb evG rfl)|((with_reducible show OpP _ _ ⟨_,.field _ _ _,_,_,_,_⟩ _ _ _);exact qrp evG rfl rfl rfl rfl rfl)|((with_reducible show OpP _ _ ⟨_,.build _ _,_,_,_,_⟩ _ _ _);exact qut rfl rfl rfl rfl partsT rf qbx)|((with_reducible show OpP _ _ ⟨_,.indexAddr _ _ _,_,_,_,_⟩ _ _ _);first|exact qak (j:=_) evG evG rfl rfl rf asT|exact qah evG evG rfl szT offI de)):OpP P c o A L F:=h
theorem s1F {A B:Prop} (f:A->B:=by first|((with_reducible show _->JL _ _ _ _ _ (⟨some _,.alloc _,_,_,_,none⟩::_) _ _);exact JL_n rfl (qcc rfl qbx rfl))|((with_reducible show _->JL _ _ _ _ _ (⟨some _,.box _ _,_,_,_,none⟩::_) _ _);exact JL_n rfl (op_box (er rfl) qcu))|((with_reducible show _->JL _ _ _ _ _ (⟨some _,_,_,_,_,none⟩::_) _ _);exact qao rfl (by exact opF))|((with_reducible show _->JL _ _ _ _ _ (⟨none,.store _ _ _,_,_,_,none⟩::_) _ _);exact qjw (qdf (er rfl) (er rfl) qcu qaf qbx rf rf rf))|((with_reducible show _->JL _ _ _ _ _ [] _ _);exact JL_nil)|((with_reducible show _->JC _ _ _ (Code.seq _ _) _ _ _);exact zap)|((with_reducible show _->JC _ _ _ (Code.region _ _ false) _ _ _);exact zgv)|((with_reducible show _->JC _ _ _ (Code.skip) _ _ _);exact zgu)|((with_reducible show _->JC _ _ _ (Code.block _ _) _ _ _);exact JC_block)|((with_reducible show _->JC _ _ _ (Code.exit _) _ _ _);exact JC_exit)|((with_reducible show _->JC _ _ _ (Code.ret) _ _ _);exact JC_ret)|((with_reducible show _->JQ _ _ _ _ (Exit.then _ _) .normal);exact qqh)|((with_reducible show _->JQ _ _ _ _ (Exit.then _ _) (.exit _));exact qv7)|((with_reducible show _->JQ _ _ _ _ (Exit.then _ _) .ret);exact qyb)|((with_reducible show _->JQ _ _ _ _ (Exit.inBlock _ _) .normal);exact JQ_block)|((with_reducible show _->JQ _ _ _ _ (Exit.inBlock _ _) .ret);exact qv8)|((with_reducible show _->JQ _ _ _ _ (Exit.inBlock _ _) (.exit _));(first|exact qtt rfl|exact JQ_hit))|((with_reducible show _->JQ _ _ _ _ (bodyPost _ _ _) .normal);exact JQ_end)|((with_reducible show _->JL _ _ _ _ _ (⟨some _,_,_,_,_,some _⟩::_) _ _);first|exact qcg rfl rfl rfl (fun hg=>by (have hg0:=hg;(try simp at hg);exact opG))|exact zgs rfl rfl rfl (fun hp hg=>by (have hpg:=Bool.and_eq_true_iff.2 ⟨hp,hg⟩;have hg0:=hg;(try simp at hg);exact opG)))|((with_reducible show _->JW _ _ _ _ _ _ _ _ (⟨some _,_,_,_,_,none⟩::_) _ _);exact qbc (by exact opF))|((with_reducible show _->JW _ _ _ _ _ _ _ _ (⟨some _,_,_,_,_,some _⟩::_) _ _);first|exact qch rfl rfl (fun hg=>by (have hg0:=hg;(try simp at hg);exact opG))|exact zgr rfl rfl (fun hp hg=>by (have hpg:=Bool.and_eq_true_iff.2 ⟨hp,hg⟩;have hg0:=hg;(try simp at hg);exact opG)))):A->B:=f
theorem s1 {A B:Prop} (h:A) (f:A->B:=by exact s1F):B:=f h
structure Bx (A:Prop):Prop where
 out:A
theorem t2 {A B:Prop} (h:A) (f:Bx A->B:=by intro z;(iterate 2 refine s1 ?_);exact z.out):B:=f ⟨h⟩
theorem t3 {A B:Prop} (h:A) (f:Bx A->B:=by intro z;(iterate 3 refine s1 ?_);exact z.out):B:=f ⟨h⟩
theorem t4 {A B:Prop} (h:A) (f:Bx A->B:=by intro z;(iterate 4 refine s1 ?_);exact z.out):B:=f ⟨h⟩
theorem t5 {A B:Prop} (h:A) (f:Bx A->B:=by intro z;(iterate 5 refine s1 ?_);exact z.out):B:=f ⟨h⟩
theorem t6 {A B:Prop} (h:A) (f:Bx A->B:=by intro z;(iterate 6 refine s1 ?_);exact z.out):B:=f ⟨h⟩
theorem t7 {A B:Prop} (h:A) (f:Bx A->B:=by intro z;(iterate 7 refine s1 ?_);exact z.out):B:=f ⟨h⟩
theorem t8 {A B:Prop} (h:A) (f:Bx A->B:=by intro z;(iterate 8 refine s1 ?_);exact z.out):B:=f ⟨h⟩
theorem t9 {A B:Prop} (h:A) (f:Bx A->B:=by intro z;(iterate 9 refine s1 ?_);exact z.out):B:=f ⟨h⟩
theorem t10 {A B:Prop} (h:A) (f:Bx A->B:=by intro z;(iterate 10 refine s1 ?_);exact z.out):B:=f ⟨h⟩
theorem t11 {A B:Prop} (h:A) (f:Bx A->B:=by intro z;(iterate 11 refine s1 ?_);exact z.out):B:=f ⟨h⟩
theorem t12 {A B:Prop} (h:A) (f:Bx A->B:=by intro z;(iterate 12 refine s1 ?_);exact z.out):B:=f ⟨h⟩
theorem t13 {A B:Prop} (h:A) (f:Bx A->B:=by intro z;(iterate 13 refine s1 ?_);exact z.out):B:=f ⟨h⟩
theorem t14 {A B:Prop} (h:A) (f:Bx A->B:=by intro z;(iterate 14 refine s1 ?_);exact z.out):B:=f ⟨h⟩
theorem t15 {A B:Prop} (h:A) (f:Bx A->B:=by intro z;(iterate 15 refine s1 ?_);exact z.out):B:=f ⟨h⟩
theorem t16 {A B:Prop} (h:A) (f:Bx A->B:=by intro z;(iterate 16 refine s1 ?_);exact z.out):B:=f ⟨h⟩
theorem t17 {A B:Prop} (h:A) (f:Bx A->B:=by intro z;(iterate 17 refine s1 ?_);exact z.out):B:=f ⟨h⟩
theorem t18 {A B:Prop} (h:A) (f:Bx A->B:=by intro z;(iterate 18 refine s1 ?_);exact z.out):B:=f ⟨h⟩
theorem t19 {A B:Prop} (h:A) (f:Bx A->B:=by intro z;(iterate 19 refine s1 ?_);exact z.out):B:=f ⟨h⟩
theorem t20 {A B:Prop} (h:A) (f:Bx A->B:=by intro z;(iterate 20 refine s1 ?_);exact z.out):B:=f ⟨h⟩
theorem t21 {A B:Prop} (h:A) (f:Bx A->B:=by intro z;(iterate 21 refine s1 ?_);exact z.out):B:=f ⟨h⟩
theorem t22 {A B:Prop} (h:A) (f:Bx A->B:=by intro z;(iterate 22 refine s1 ?_);exact z.out):B:=f ⟨h⟩
theorem t23 {A B:Prop} (h:A) (f:Bx A->B:=by intro z;(iterate 23 refine s1 ?_);exact z.out):B:=f ⟨h⟩
theorem t24 {A B:Prop} (h:A) (f:Bx A->B:=by intro z;(iterate 24 refine s1 ?_);exact z.out):B:=f ⟨h⟩
theorem t25 {A B:Prop} (h:A) (f:Bx A->B:=by intro z;(iterate 25 refine s1 ?_);exact z.out):B:=f ⟨h⟩
theorem t28 {A B:Prop} (h:A) (f:Bx A->B:=by intro z;(iterate 28 refine s1 ?_);exact z.out):B:=f ⟨h⟩
theorem t29 {A B:Prop} (h:A) (f:Bx A->B:=by intro z;(iterate 29 refine s1 ?_);exact z.out):B:=f ⟨h⟩
theorem t30 {A B:Prop} (h:A) (f:Bx A->B:=by intro z;(iterate 30 refine s1 ?_);exact z.out):B:=f ⟨h⟩
theorem t31 {A B:Prop} (h:A) (f:Bx A->B:=by intro z;(iterate 31 refine s1 ?_);exact z.out):B:=f ⟨h⟩
theorem t32 {A B:Prop} (h:A) (f:Bx A->B:=by intro z;(iterate 32 refine s1 ?_);exact z.out):B:=f ⟨h⟩
theorem t33 {A B:Prop} (h:A) (f:Bx A->B:=by intro z;(iterate 33 refine s1 ?_);exact z.out):B:=f ⟨h⟩
theorem t36 {A B:Prop} (h:A) (f:Bx A->B:=by intro z;(iterate 36 refine s1 ?_);exact z.out):B:=f ⟨h⟩
theorem t37 {A B:Prop} (h:A) (f:Bx A->B:=by intro z;(iterate 37 refine s1 ?_);exact z.out):B:=f ⟨h⟩
theorem t40 {A B:Prop} (h:A) (f:Bx A->B:=by intro z;(iterate 40 refine s1 ?_);exact z.out):B:=f ⟨h⟩
theorem cN {P:Program} {c:Ctx} {N:Nat} {E:Env} {L:List Item} {Q:Exit->Go.Act->World->Prop} {x:Operand} {y z:Code} {b:Bool} (ht:b=true->JC P c N y E L Q) (hf:b=false->JC P c N z E L Q) (hx:evA (look E) x=some (Ib b):=by exact rfl):JC P c N (Code.cond x y z) E L Q:=zgx (Ev.rfl' hx) ht hf
theorem kT {P:Program} {c:Ctx} {N:Nat} {E:Env} {L:List Item} {Q:Exit->Go.Act->World->Prop} {ops:Array Oper} {rest:List Oper} {ty:TypeId} {pos:String} {af:Array Edge} {tt:Tmp} {f:FuncId} {xs:List Operand} {ts:Array TypeId} {As:List VP} {R:VP} (hc:∀ (args:Array Value) (w:World),(callFunc f args).run P w = .ok (.enter f args) w) (hF:FnP P f As R) (h:JL P ops Q c N rest ((tt,R)::E) L) (hd:Nat.blt tt N=true:=by exact rfl) (ha:ArgsE (look E) L xs As:=by repeat (first|exact trivial|refine ⟨evT,?_⟩)):JL P ops Q c N (⟨some tt,.call { callee:=.value (.func f),args:=xs.toArray,argTypes:=ts },ty,pos,af,none⟩::rest) E L:=qao hd (qac hc hF ha) h
theorem eT {P:Program} {E:Env} {L:List Item} {rs:List ResultVar} {Bs:List VP} (h:qqg P E L rs Bs:=by repeat (first|exact trivial|refine ⟨⟨_,_,_,_,rfl,qba,rfl,.inr ⟨rfl,_,rfl,rfl,subT⟩⟩,?_⟩|refine ⟨⟨_,rfl,subT⟩,?_⟩)):qqg P E L rs Bs:=h
theorem Z5 {A B:Prop} (h:A) (f:Bx A→B:=by intro z;refine JC_dr rfl kr ?_;exact z.out):B:=f ⟨h⟩
theorem Z11 {A B:Prop} (h:A) (f:Bx A→B:=by intro z;refine zbx kr rfl (qdf (er rfl) (er rfl) qa5 qaf qbx rf rf rf) ?_;refine qda ?_;exact z.out):B:=f ⟨h⟩
theorem Z14 {A B:Prop} (h:A) (f:Bx A→B:=by intro z;refine s1 ?_;refine qbc (by exact qay (k:=0) (er rfl) qba (er rfl) rfl rfl qdh qcn) ?_;exact z.out):B:=f ⟨h⟩
theorem Z19 {A B:Prop} (h:A) (f:Bx A→B:=by intro z;refine qbc (by first|exact qah (k:=1) (sz:=1) (er rfl) (er rfl) rfl rfl de de|exact qah (k:=2) (sz:=1) (er rfl) (er rfl) rfl rfl de de|exact qah (k:=3) (sz:=1) (er rfl) (er rfl) rfl rfl de de|exact qah (k:=4) (sz:=1) (er rfl) (er rfl) rfl rfl de de) ?_;exact z.out):B:=f ⟨h⟩
theorem Z20 {A B:Prop} (h:A) (f:Bx A→B:=by intro z;refine qda ?_;refine s1 ?_;exact z.out):B:=f ⟨h⟩
theorem Z32 {A B:Prop} (h:A) (f:Bx A→B:=by intro z;refine t3 ?_;refine Z5 ?_;exact z.out):B:=f ⟨h⟩
theorem Z33 {A B:Prop} (h:A) (f:Bx A→B:=by intro z;refine qda ?_;refine t2 ?_;exact z.out):B:=f ⟨h⟩
theorem Z38 {A B:Prop} (h:A) (f:Bx A→B:=by intro z;refine t4 ?_;refine Z5 ?_;exact z.out):B:=f ⟨h⟩
theorem Z39 {A B:Prop} (h:A) (f:Bx A→B:=by intro z;refine t16 ?_;refine qao rfl (by first|exact qah (k:=1) (sz:=1) (er rfl) (er rfl) rfl rfl de de|exact qah (k:=2) (sz:=1) (er rfl) (er rfl) rfl rfl de de|exact qah (k:=3) (sz:=1) (er rfl) (er rfl) rfl rfl de de|exact qah (k:=4) (sz:=1) (er rfl) (er rfl) rfl rfl de de) ?_;refine t5 ?_;refine qao rfl (by first|exact qhq (k:=0) qhh (er rfl) de de|exact qhq (k:=32) qhh (er rfl) de de) ?_;refine s1 ?_;exact z.out):B:=f ⟨h⟩
theorem Z42 {A B:Prop} (h:A) (f:Bx A→B:=by intro z;refine qbc (by exact qeg (k:=32) qhh (er rfl) om qdh) ?_;exact z.out):B:=f ⟨h⟩
theorem Z44 {A B:Prop} (h:A) (f:Bx A→B:=by intro z;refine qao rfl (by first|exact qa6 (n:=9) (er rfl) rfl rfl rfl rf qbx|exact qa3 (n:=9) (er rfl) qba rf rf rf rf qbx) ?_;exact z.out):B:=f ⟨h⟩
theorem Z47 {A B:Prop} (h:A) (f:Bx A→B:=by intro z;refine qao rfl (by exact qay (k:=0) (er rfl) qba (er rfl) rfl rfl qdh qcn) ?_;exact z.out):B:=f ⟨h⟩
theorem Z52 {A B:Prop} (h:A) (f:Bx A→B:=by intro z;refine qao rfl (qah (k:=_) (sz:=1) (er rfl) (er rfl) rfl rfl qdh de) ?_;exact z.out):B:=f ⟨h⟩
theorem Z53 {A B:Prop} (h:A) (f:Bx A→B:=by intro z;refine qao rfl (qah (k:=_) (sz:=2) (er rfl) (er rfl) rfl rfl qdh de) ?_;exact z.out):B:=f ⟨h⟩
theorem Z60 {A B:Prop} (h:A) (f:Bx A→B:=by intro z;refine t16 ?_;refine qao rfl (by first|exact qah (k:=2) (sz:=1) (er rfl) (er rfl) rfl rfl de de|exact qah (k:=3) (sz:=1) (er rfl) (er rfl) rfl rfl de de) ?_;refine t5 ?_;refine qao rfl (by first|exact qhq (k:=0) qhh (er rfl) de de|exact qhq (k:=32) qhh (er rfl) de de) ?_;refine s1 ?_;exact z.out):B:=f ⟨h⟩
theorem Z62 {A B:Prop} (h:A) (f:Bx A→B:=by intro z;refine qdo 50 tPg ?_;exact z.out):B:=f ⟨h⟩
theorem Z64 {A B:Prop} (h:A) (f:Bx A→B:=by intro z;refine qao rfl (by first|exact qah (k:=0) (sz:=3) (er rfl) (er rfl) rfl rfl de de|exact qah (k:=1) (sz:=3) (er rfl) (er rfl) rfl rfl de de|exact qah (k:=2) (sz:=3) (er rfl) (er rfl) rfl rfl de de|exact qah (k:=3) (sz:=3) (er rfl) (er rfl) rfl rfl de de) ?_;exact z.out):B:=f ⟨h⟩
theorem Z70 {A B:Prop} (h:A) (f:Bx A→B:=by intro z;refine t5 ?_;refine Z5 ?_;exact z.out):B:=f ⟨h⟩
theorem Z74 {A B:Prop} (h:A) (f:Bx A→B:=by intro z;refine qda ?_;refine t7 ?_;exact z.out):B:=f ⟨h⟩
theorem Z80 {A B:Prop} (h:A) (f:Bx A→B:=by intro z;refine JD_1 kr rfl rfl (quu rfl) ?_;exact z.out):B:=f ⟨h⟩
theorem Z81 {A B:Prop} (h:A) (f:Bx A→B:=by intro z;refine qao rfl (by exact qgo (k:=16) qn0 (er rfl) om qdh) ?_;exact z.out):B:=f ⟨h⟩
theorem Z82 {A B:Prop} (h:A) (f:Bx A→B:=by intro z;refine qaj 10 kr ?_;exact z.out):B:=f ⟨h⟩
theorem Z83 {A B:Prop} (h:A) (f:Bx A→B:=by intro z;refine qdo 139 tEn ?_;exact z.out):B:=f ⟨h⟩
theorem Z88 {A B:Prop} (h:A) (f:Bx A→B:=by intro z;refine qao rfl (by exact qcr (k:=2) (er rfl) qba qcn rfl rfl rfl rfl) ?_;exact z.out):B:=f ⟨h⟩
theorem Z97 {A B:Prop} (h:A) (f:Bx A→B:=by intro z;refine s1 ?_;refine Z42 ?_;refine t2 ?_;refine qbc (by first|exact qah (k:=2) (sz:=1) (er rfl) (er rfl) rfl rfl de de|exact qah (k:=3) (sz:=1) (er rfl) (er rfl) rfl rfl de de) ?_;exact z.out):B:=f ⟨h⟩
theorem qx3 {A B:Prop} (h:A) (f:Bx A→B:=by intro z;refine qaj 11 kr ?_;exact z.out):B:=f ⟨h⟩
theorem Z101 {A B:Prop} (h:A) (f:Bx A→B:=by intro z;refine Z5 ?_;refine qaj 8 kr ?_;exact z.out):B:=f ⟨h⟩
theorem zaj {A B:Prop} (h:A) (f:Bx A→B:=by intro z;refine qaj 12 kr ?_;exact z.out):B:=f ⟨h⟩
theorem Z108 {A B:Prop} (h:A) (f:Bx A→B:=by intro z;refine qao rfl (by exact qhq (k:=32) qhh (er rfl) om qdh) ?_;exact z.out):B:=f ⟨h⟩
theorem Z109 {A B:Prop} (h:A) (f:Bx A→B:=by intro z;refine t2 ?_;refine Z5 ?_;refine qaj 7 kr ?_;refine t5 ?_;exact z.out):B:=f ⟨h⟩
theorem Z110 {A B:Prop} (h:A) (f:Bx A→B:=by intro z;refine qbc (by first|exact qah (k:=1) (sz:=2) (er rfl) (er rfl) rfl rfl de de|exact qah (k:=3) (sz:=2) (er rfl) (er rfl) rfl rfl de de) ?_;refine s1 ?_;exact z.out):B:=f ⟨h⟩
theorem zbq {A B:Prop} (h:A) (f:Bx A→B:=by intro z;refine qaj 13 kr ?_;exact z.out):B:=f ⟨h⟩
theorem Z112 {A B:Prop} (h:A) (f:Bx A→B:=by intro z;refine t3 ?_;refine qbc (by exact qhq (k:=32) qhh (er rfl) om qdh) ?_;refine t3 ?_;exact z.out):B:=f ⟨h⟩
section
variable {P:Program} {c:Ctx} {A:Nat->Option VP} {L:List Item} {d:Option Tmp} {ty:TypeId} {pos:String} {af:Array Edge} {g:Option (Nat×Bool)}
@[reducible] def FnK (P:Program) (f:FuncId) (G:Item) (As:List VP) (R:VP):Prop:=Fn P f As [G] (fun _:Unit=>R) (fun _=>[])
theorem qg5 {v:Value} {B:VP} {f:FuncId} {xs:List Operand} {ts:Array TypeId} {As:List VP} {R:VP} (hc:∀ (args:Array Value) (w:World),(callFunc f args).run P w = .ok (.enter f args) w)
  (hF:FnK P f (fact v B) As R) (ha:ArgsE A L xs As) (hG:fact v B∈L):OpP P c ⟨d,.call { callee:=.value (.func f),args:=xs.toArray,argTypes:=ts },ty,pos,af,g⟩ A L R:=by
 intro φ a w K Q hm he hk;have hv:=ha.alls (φ:=φ) (a:=a) fun x hx=>he x (by simp [Op.operands,Call.operands,hx]);unfold Oper.wp;rw [qeu hc];have hit:=hm.mem.items _ hG;refine (hF φ w _ hv ⟨hm.mem.base,fun it hi=>by rw [List.mem_singleton] at hi;subst hi;exact hit,List.pairwise_singleton _ _⟩).mono ?_;rintro e w' ⟨i,v',φ',rfl,h1,h2⟩;exact hk φ' v' w' (by simpa [qbr,fact] using h2) h1
theorem FnK.run {v:Value} {B:VP} {f:FuncId} {As:List VP} {r:Value} (h:FnK P f (fact v B) As (Is r)) (w:World) (vs:List Value) (hB:B.ok (phi w) v) (hv:Alls (phi w) As vs):Calls P f vs.toArray w fun e w'=>e = .returned r∧Below w.heap.size w w':=by
 refine (h (phi w) w vs hv ⟨fun _ _ _ h=>h,fun it hi=>?_,List.pairwise_singleton _ _⟩).mono ?_
 ·rw [List.mem_singleton] at hi;subst hi;exact ⟨hB,fun b hb=>by cases hb⟩
 ·rintro e w' ⟨i,v,φ',rfl,h1,h2⟩;have h1':v=r:=h1;subst h1';exact ⟨rfl,Kpt.below (by simpa [qbr,fact] using h2.kept)⟩
end
theorem qu9 (l:Int):FnP prog 110 [Ii l] (Ib (qlb l)):=by
 refine FnP.enter func110 ntmps110 rfl rfl ?_;intro c hX;refine t17 ?_;refine rB results110 rfl ?_;rfl
theorem qk1 (l:Int):FnP prog 78 [Ii l] (Ib (qlb l)):=by
 refine FnP.enter func78 ntmps78 rfl rfl ?_;intro c hX;refine t17 ?_;refine rB results78 rfl ?_;rfl
theorem qhz (p:Pt):FnP prog 50 [qh6 p] (Ib (qbt p)):=by
 refine FnP.enter func50 ntmps50 rfl rfl ?_;intro c hX;refine t3 ?_;intro i1;refine t7 ?_;refine qao rfl (qac call110 (qu9 _) ⟨evS,trivial⟩) ?_;refine t14 ?_;refine rB results50 rfl ?_;rfl
theorem qb5 (p:Pt):FnP prog 30 [qh6 p] (Ib (qbt p)):=by
 refine FnP.enter func30 ntmps30 rfl rfl ?_;intro c hX;refine t3 ?_;intro i1;refine t7 ?_;refine qao rfl (qac call78 (qk1 _) ⟨evS,trivial⟩) ?_;refine t14 ?_;refine rB results30 rfl ?_;rfl
theorem Pack_ok (p:Pt):FnP prog 121 [qh6 p] (Is (.int .u32 (UV (qcq p)))):=by
 refine FnP.enter func121 ntmps121 rfl rfl ?_;intro c hX;refine t3 ?_;intro i1;refine t7 ?_;refine qao rfl (qac call50 (qhz _) ⟨evS,trivial⟩) ?_;refine t3 ?_;refine cN ?_ ?_<;>intro h1
 ·refine t7 ?_;refine rB results121 rfl ?_;rw [zdx (by simpa using h1)];rfl
 refine t7 ?_;refine qao rfl (by exact qev (k:=8) qn0 (er rfl) om qdh) ?_;refine t8 ?_;refine rB results121 rfl ?_;rw [<- pack_or (by simpa using h1)]
theorem qji (p:Pt):FnP prog 96 [qh6 p] (Is (.int .u32 (UV (qcq p)))):=by
 refine FnP.enter func96 ntmps96 rfl rfl ?_;intro c hX;refine t3 ?_;intro i1;refine t7 ?_;refine qao rfl (qac call30 (qb5 _) ⟨evS,trivial⟩) ?_;refine t3 ?_;refine cN ?_ ?_<;>intro h1
 ·refine t7 ?_;refine rB results96 rfl ?_;rw [zdx (by simpa using h1)];rfl
 refine t16 ?_;refine rB results96 rfl ?_;rw [<- pack_add (by simpa using h1)];rfl
theorem qv2 (x:BitVec 32):FnP prog 172 [Is (.int .u32 (UV x))] (qh6 (qbb x)):=by
 refine FnP.enter func172 ntmps172 rfl rfl ?_;intro c hX;refine t3 ?_;intro i2;refine t8 ?_;refine qao rfl (by exact qgo (k:=8) qn0 (er rfl) om qdh) ?_;refine t6 ?_;rw [qwp];exact qbq (Bs:=[qh6 ⟨UV (x&&&BitVec.ofInt 32 255),UV (x>>>8)⟩]) results172 eT () SubL.rfl' (List.nil_sublist _)
theorem qfv (x:BitVec 32):FnP prog 187 [Is (.int .u32 (UV x))] (qh6 (qbb x)):=by
 refine FnP.enter func187 ntmps187 rfl rfl ?_;intro c hX;refine t3 ?_;intro i2;refine t15 ?_;rw [zar];exact qbq (Bs:=[qh6 ⟨IntKind.i64.wrap ((UV x).tmod 256),IntKind.i64.wrap (IntKind.u32.wrap ((UV x).tdiv 256))⟩]) results187 eT () SubL.rfl' (List.nil_sublist _)
theorem Z71 {A B:Prop} (h:A) (f:Bx A→B:=by intro z;refine qbc (qac call121 (Pack_ok _) ⟨evS,trivial⟩) ?_;exact z.out):B:=f ⟨h⟩
theorem Z94 {A B:Prop} (h:A) (f:Bx A→B:=by intro z;refine qbc (qac call96 (qji _) ⟨evS,trivial⟩) ?_;exact z.out):B:=f ⟨h⟩
section
variable {α:Type}
structure PI (a b:Nat) (xs ys:List α):Prop where
 len:ys.length=xs.length
 out:∀ i,i<a∨b<=i->ys[i]?=xs[i]?
 perm:ys.Perm xs
variable {a b:Nat} {xs ys zs:List α}
theorem PI.rfl':PI a b xs xs:=⟨rfl,fun _ _=>rfl,List.Perm.refl _⟩
theorem PI.tr (h:PI a b xs ys) (k:PI a b ys zs):PI a b xs zs:=⟨k.len.trans h.len,fun i hi=>(k.out i hi).trans (h.out i hi),k.perm.trans h.perm⟩
theorem PI.wide {a' b':Nat} (h:PI a b xs ys) (ha:a'<=a) (hb:b<=b'):PI a' b' xs ys:=⟨h.len,fun i hi=>h.out i om,h.perm⟩
theorem PI.mid (h:PI a b xs ys) (hab:a<=b):((ys.take b).drop a).Perm ((xs.take b).drop a):=by
 have e1:ys.take a=xs.take a:=by
  apply List.ext_getElem?
  intro i;rw [List.getElem?_take,List.getElem?_take];split
  ·exact h.out i (.inl (by assumption))
  ·rfl
 have e2:ys.drop b=xs.drop b:=by
  apply List.ext_getElem?
  intro i;rw [List.getElem?_drop,List.getElem?_drop];exact h.out _ (.inr om)
 have s:∀ l:List α,l=l.take a++((l.take b).drop a++l.drop b):=fun l=>by
  conv=>lhs;rw [<- List.take_append_drop b l]
  rw [<- List.append_assoc]
  congr 1
  conv=>lhs;rw [<- List.take_append_drop a (l.take b)]
  rw [List.take_take,Nat.min_eq_left hab]
 have hp:=h.perm;rw [s ys,s xs,e1,e2] at hp;exact (List.perm_append_right_iff _).1 ((List.perm_append_left_iff _).1 hp)
theorem PI.mem (h:PI a b xs ys) {p:Nat} {y:α} (h1:a<=p) (h2:p<b) (hy:ys[p]?=some y):∃ q,a<=q∧q<b∧xs[q]?=some y:=by
 have hm:y∈(ys.take b).drop a:=by
  refine List.mem_of_getElem? (i:=p-a) ?_;rw [List.getElem?_drop,List.getElem?_take,if_pos om,show a+(p-a)=p by omega];exact hy
 have hm2:=(h.mid om).mem_iff.1 hm;obtain ⟨i,hi⟩:=List.getElem?_of_mem hm2;rw [List.getElem?_drop,List.getElem?_take] at hi;split at hi
 ·exact ⟨a+i,om,by assumption,hi⟩
 ·cases hi
theorem qys {i j:Nat} {x y:α} (hx:xs[i]?=some x) (hy:xs[j]?=some y) (k:Nat):((xs.set i y).set j x)[k]?=if k=j then some x else if k=i then some y else xs[k]?:=by
 have hi:=(List.getElem?_eq_some_iff.1 hx).1;have hj:=(List.getElem?_eq_some_iff.1 hy).1;rw [List.getElem?_set,List.getElem?_set];by_cases h1:j=k
 ·subst h1;simp [hj]
 ·rw [if_neg h1,if_neg (Ne.symm h1)];by_cases h2:i=k
  ·subst h2;simp [hi]
  ·rw [if_neg h2,if_neg (Ne.symm h2)]
theorem sw_PI {i j:Nat} {x y:α} (hx:xs[i]?=some x) (hy:xs[j]?=some y) (hi:a<=i∧i<b) (hj:a<=j∧j<b):PI a b xs ((xs.set i y).set j x):=by
 have li:=(List.getElem?_eq_some_iff.1 hx).1;have lj:=(List.getElem?_eq_some_iff.1 hy).1;refine ⟨by simp,fun k hk=>?_,?_⟩
 ·rw [qys hx hy,if_neg om,if_neg om]
 ·have hx':xs[i]=x:=(List.getElem?_eq_some_iff.1 hx).2;have hy':xs[j]=y:=(List.getElem?_eq_some_iff.1 hy).2;have:=List.set_set_perm li lj;rw [hx',hy'] at this;exact this
variable {key:α->Int}
def Srt (key:α->Int) (a b:Nat) (xs:List α):Prop:=∀ i j x y,a<=i->i<j->j<b->xs[i]?=some x->xs[j]?=some y->key x<=key y
theorem Srt.sub {a' b':Nat} (h:Srt key a b xs) (ha:a<=a') (hb:b'<=b):Srt key a' b' xs:=fun i j x y h1 h2 h3=>h i j x y om h2 om
theorem Srt.one (h:b<=a+1):Srt key a b xs:=fun i j x y h1 h2 h3=>by omega
theorem Srt.same (h:Srt key a b xs) (he:∀ i,a<=i->i<b->ys[i]?=xs[i]?):Srt key a b ys:=fun i j x y h1 h2 h3 hx hy =>
 h i j x y h1 h2 h3 (by rw [<- he i h1 om];exact hx) (by rw [<- he j om h3];exact hy)
theorem Srt.le (h:Srt key a b xs) {i j:Nat} {x y:α} (h1:a<=i) (h2:i<=j) (h3:j<b) (hx:xs[i]?=some x) (hy:xs[j]?=some y):key x<=key y:=by
 rcases Nat.lt_or_ge i j with hl|hl
 ·exact h i j x y h1 hl h3 hx hy
 ·have:i=j:=om;subst this;rw [hx] at hy;cases hy;exact Int.le_refl _
structure Flt (key:α->Int) (a i j:Nat) (zs:List α):Prop where
 rest:∀ p q x y,a<=p->p<q->q<=i->p≠j->q≠j->zs[p]?=some x->zs[q]?=some y->key x<=key y
 up:∀ q x y,j<q->q<=i->zs[j]?=some x->zs[q]?=some y->key x<=key y
theorem Flt.start {i:Nat} (h:Srt key a i zs):Flt key a i i zs:=⟨fun p q x y h1 h2 h3 h4 h5 hx hy=>h p q x y h1 h2 om hx hy,fun q x y h1 h2=>by omega⟩
theorem Flt.step {i j:Nat} {x y:α} (h:Flt key a i j zs) (hj:a<j) (hji:j<=i) (hx:zs[j]?=some x) (hy:zs[j-1]?=some y) (hlt:key x<key y):Flt key a i (j-1) ((zs.set j y).set (j-1) x):=by
 have hg:=qys hx hy;refine ⟨fun p q u v h1 h2 h3 h4 h5 hu hv=>?_,fun q u v h1 h2 hu hv=>?_⟩
 ·rw [hg] at hu hv;rw [if_neg h4] at hu;rw [if_neg h5] at hv;by_cases hp:p=j
  ·rw [if_pos hp] at hu;cases hu;rw [if_neg om] at hv;exact h.rest (j-1) q y v om om h3 om om hy hv
  ·rw [if_neg hp] at hu;by_cases hq:q=j
   ·rw [if_pos hq] at hv;cases hv;exact h.rest p (j-1) u y h1 om om hp om hu hy
   ·rw [if_neg hq] at hv;exact h.rest p q u v h1 h2 h3 hp hq hu hv
 ·rw [hg] at hu hv;rw [if_pos rfl] at hu;cases hu;rw [if_neg om] at hv;by_cases hq:q=j
  ·rw [if_pos hq] at hv;cases hv;omega
  ·rw [if_neg hq] at hv;exact h.up q x v om h2 hx hv
theorem Flt.done {i j:Nat} (h:Flt key a i j zs) (hji:j<=i) (he:j=a∨(a<j∧∀ x y,zs[j]?=some x->zs[j-1]?=some y->key y<=key x)):Srt key a (i+1) zs:=by
 intro p q u v h1 h2 h3 hu hv;by_cases hp:p=j
 ·subst hp;exact h.up q u v h2 om hu hv
 ·by_cases hq:q=j
  ·subst hq;rcases he with he|⟨hlt,he⟩
   ·omega
   ·have hl:=(List.getElem?_eq_some_iff.1 hv).1;obtain ⟨y,hy⟩:∃ y,zs[q-1]?=some y:=⟨zs[q-1],gE om⟩
    have h4:=he v y hv hy;by_cases hpq:p=q-1
    ·subst hpq;rw [hu] at hy;cases hy;exact h4
    ·exact Int.le_trans (h.rest p (q-1) u y h1 om om hp om hu hy) h4
  ·exact h.rest p q u v h1 h2 om hp hq hu hv
end
section
variable {α:Type} {key:α->Int} {a m b st mid en:Nat} {xs ys zs:List α}
def Crs (key:α->Int) (a mid b:Nat) (xs:List α):Prop:=∀ p q x y,a<=p->p<mid->mid<=q->q<b->xs[p]?=some x->xs[q]?=some y->key x<=key y
theorem Crs.left (h:Crs key a mid b xs) (hp:PI a mid xs ys):Crs key a mid b ys:=fun p q x y e1 e2 e3 e4 hx hy=>by
 obtain ⟨p',f1,f2,f3⟩:=hp.mem e1 e2 hx;exact h p' q x y f1 f2 e3 e4 f3 (by rw [<- hp.out q (.inr e3)];exact hy)
theorem Crs.right (h:Crs key a mid b xs) (hp:PI mid b xs ys):Crs key a mid b ys:=fun p q x y e1 e2 e3 e4 hx hy=>by
 obtain ⟨q',f1,f2,f3⟩:=hp.mem e3 e4 hy;exact h p q' x y e1 e2 f1 f2 (by rw [<- hp.out p (.inl e2)];exact hx) f3
structure Rgt (key:α->Int) (a b i k:Nat) (x:α) (zs:List α):Prop where
 at_:zs[k]?=some x
 rest:∀ p q u v,a<=p->p<q->q<b->p≠k->q≠k->zs[p]?=some u->zs[q]?=some v->key u<=key v
 lo:∀ p u,a<=p->p<i->p≠k->zs[p]?=some u->key u<=key x
 hi:∀ p u,i<=p->p<b->zs[p]?=some u->key x<=key u
theorem Rgt.step {i k:Nat} {x y:α} (h:Rgt key a b i k x zs) (h1:a<=k) (h2:k+1<i) (h3:i<=b) (hy:zs[k+1]?=some y):Rgt key a b i (k+1) x ((zs.set k y).set (k+1) x):=by
 have hg:=qys h.at_ hy;refine ⟨by rw [hg,if_pos rfl],fun p q u v f1 f2 f3 f4 f5 hu hv=>?_,fun p u f1 f2 f3 hu=>?_,fun p u f1 f2 hu=>?_⟩
 ·rw [hg,if_neg f4] at hu;rw [hg,if_neg f5] at hv;by_cases hp:p=k
  ·rw [if_pos hp] at hu;cases hu;rw [if_neg om] at hv;exact h.rest (k+1) q y v om om f3 om om hy hv
  ·rw [if_neg hp] at hu;by_cases hq:q=k
   ·rw [if_pos hq] at hv;cases hv;exact h.rest p (k+1) u y f1 om om hp om hu hy
   ·rw [if_neg hq] at hv;exact h.rest p q u v f1 f2 f3 hp hq hu hv
 ·rw [hg,if_neg f3] at hu;by_cases hp:p=k
  ·rw [if_pos hp] at hu;cases hu;exact h.lo (k+1) y om h2 om hy
  ·rw [if_neg hp] at hu;exact h.lo p u f1 f2 hp hu
 ·rw [hg,if_neg om,if_neg om] at hu;exact h.hi p u f1 f2 hu
theorem Rgt.done {i k:Nat} {x:α} (h:Rgt key a b i k x zs) (hk:k+1=i):Srt key a b zs:=fun p q u v f1 f2 f3 hu hv=>by
 by_cases hp:p=k
 ·subst hp;rw [h.at_] at hu;cases hu;exact h.hi q v om f3 hv
 ·by_cases hq:q=k
  ·subst hq;rw [h.at_] at hv;cases hv;exact h.lo p u f1 om hp hu
  ·exact h.rest p q u v f1 f2 f3 hp hq hu hv
structure Lft (key:α->Int) (a b i k:Nat) (x:α) (zs:List α):Prop where
 at_:zs[k]?=some x
 rest:∀ p q u v,a<=p->p<q->q<b->p≠k->q≠k->zs[p]?=some u->zs[q]?=some v->key u<=key v
 lo:∀ p u,a<=p->p<i->zs[p]?=some u->key u<=key x
 hi:∀ p u,i<=p->p<b->p≠k->zs[p]?=some u->key x<=key u
theorem Lft.step {i k:Nat} {x y:α} (h:Lft key a b i k x zs) (h0:a<=i) (h1:i<k) (h2:k<b) (hy:zs[k-1]?=some y):Lft key a b i (k-1) x ((zs.set k y).set (k-1) x):=by
 have hg:=qys h.at_ hy;refine ⟨by rw [hg,if_pos rfl],fun p q u v f1 f2 f3 f4 f5 hu hv=>?_,fun p u f1 f2 hu=>?_,fun p u f1 f2 f3 hu=>?_⟩
 ·rw [hg,if_neg f4] at hu;rw [hg,if_neg f5] at hv;by_cases hp:p=k
  ·rw [if_pos hp] at hu;cases hu;rw [if_neg om] at hv;exact h.rest (k-1) q y v om om f3 om om hy hv
  ·rw [if_neg hp] at hu;by_cases hq:q=k
   ·rw [if_pos hq] at hv;cases hv;exact h.rest p (k-1) u y f1 om om hp om hu hy
   ·rw [if_neg hq] at hv;exact h.rest p q u v f1 f2 f3 hp hq hu hv
 ·rw [hg,if_neg om,if_neg om] at hu;exact h.lo p u f1 f2 hu
 ·rw [hg,if_neg f3] at hu;by_cases hp:p=k
  ·rw [if_pos hp] at hu;cases hu;exact h.hi (k-1) y om om om hy
  ·rw [if_neg hp] at hu;exact h.hi p u f1 f2 hp hu
theorem Lft.done {i:Nat} {x:α} (h:Lft key a b i i x zs):Srt key a b zs:=fun p q u v f1 f2 f3 hu hv=>by
 by_cases hp:p=i
 ·subst hp;rw [h.at_] at hu;cases hu;exact h.hi q v om f3 om hv
 ·by_cases hq:q=i
  ·subst hq;rw [h.at_] at hv;cases hv;exact h.lo p u f1 f2 hu
  ·exact h.rest p q u v f1 f2 f3 hp hq hu hv
def Blks (key:α->Int) (s n:Nat) (xs:List α):Prop:=∀ k,Srt key (k*s) (min ((k+1)*s) n) xs
theorem Blks.done {s n:Nat} (h:Blks key s n xs) (hs:n<=s):Srt key 0 n xs:=by
 have:=h 0;rw [Nat.zero_mul,Nat.zero_add,Nat.one_mul,Nat.min_eq_right hs] at this;exact this
end
section
variable {α:Type} {key:α->Int}
theorem qr1:∀ {xs ys:List α},xs.Perm ys->xs.Pairwise (fun x y=>key x<key y)->ys.Pairwise (fun x y=>key x<key y)->xs=ys
 | [],ys,h,_,_=>by rw [h.nil_eq]
 | x::xs,[],h,_,_=>by exact absurd h.symm.nil_eq (by simp)
 | x::xs,y::ys,h,h1,h2=>by
  obtain ⟨a1,a2⟩:=List.pairwise_cons.1 h1;obtain ⟨b1,b2⟩:=List.pairwise_cons.1 h2;have hxy:x=y:=by
   rcases List.mem_cons.1 (h.mem_iff.1 (List.mem_cons_self ..)) with e|hx
   ·exact e
   ·rcases List.mem_cons.1 (h.mem_iff.2 (List.mem_cons_self ..)) with e|hy
    ·exact e.symm
    ·have:=b1 x hx;have:=a1 y hy;omega
  subst hxy;rw [qr1 ((List.perm_cons x).1 h) a2 b2]
theorem srt_asc {xs:List α} (h:Srt key 0 xs.length xs) (hd:(xs.map key).Nodup):xs.Pairwise (fun x y=>key x<key y):=by
 rw [List.pairwise_iff_getElem];intro i j hi hj hij;have h1:=h i j xs[i] xs[j] (nZ _) hij hj (gE hi) (gE hj);have h2:key xs[i]≠key xs[j]:=fun e=>by
  have h3:=(List.getElem_inj (i:=i) (j:=j) (h₀:=by simpa using hi) (h₁:=by simpa using hj) hd).1 (by simpa using e);omega
 omega
end
end Go.Proofs.YteafmggidjjdgaaGreatDoor
