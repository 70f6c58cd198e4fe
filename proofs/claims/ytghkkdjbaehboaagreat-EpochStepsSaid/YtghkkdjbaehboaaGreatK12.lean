/- Walks of functions and plain laws, laid together. Own work. -/
import Derived.Shelf.Sort.Plain
import Derived.Shelf.Slices.CompactI
import Derived.Test.YtghkkdjbaehboaaGreatK11
namespace Go.Proofs.YtghkkdjbaehboaaGreat
open Go.RowKit Tryz
set_option linter.unusedVariables false
set_option linter.unusedSimpArgs false
set_option maxRecDepth 100000
set_option maxHeartbeats 4000000
def shRen:Go.Shelf.Ren:=⟨fun|125=>63|128=>109|129=>110|189=>138|215=>64|216=>229|257=>173|294=>223|295=>224|296=>225|297=>226|298=>227|299=>228|300=>230|301=>231|328=>248|329=>148|330=>149|331=>249|332=>250|343=>254|n=>n,fun|0=>0|3=>3|4=>4|5=>5|9=>9|28=>27|46=>80|51=>38|53=>24|131=>202|182=>197|183=>198|218=>240|222=>244|228=>303|229=>304|n=>n,fun n=>n⟩
theorem shLays:Lays.n189 Tryz.prog shRen:={
 mixed:=by kernel_rfl
 f125:=func63.trans (congrArg some (by kernel_rfl))
 f128:=func109.trans (congrArg some (by kernel_rfl))
 f129:=func110.trans (congrArg some (by kernel_rfl))
 f189:=func138.trans (congrArg some (by kernel_rfl))
 f215:=func64.trans (congrArg some (by kernel_rfl))
 f216:=func229.trans (congrArg some (by kernel_rfl))
 f257:=func173.trans (congrArg some (by kernel_rfl))
 f294:=func223.trans (congrArg some (by kernel_rfl))
 f295:=func224.trans (congrArg some (by kernel_rfl))
 f296:=func225.trans (congrArg some (by kernel_rfl))
 f297:=func226.trans (congrArg some (by kernel_rfl))
 f298:=func227.trans (congrArg some (by kernel_rfl))
 f299:=func228.trans (congrArg some (by kernel_rfl))
 f300:=func230.trans (congrArg some (by kernel_rfl))
 f301:=func231.trans (congrArg some (by kernel_rfl))
 f328:=func248.trans (congrArg some (by kernel_rfl))
 f329:=func148.trans (congrArg some (by kernel_rfl))
 f330:=func149.trans (congrArg some (by kernel_rfl))
 f331:=func249.trans (congrArg some (by kernel_rfl))
 f332:=func250.trans (congrArg some (by kernel_rfl))
 f343:=func254.trans (congrArg some (by kernel_rfl))
 t0:=Tryz.underlying0
 a0:=Tryz.isAgg0
 z0:=Tryz.sizeOf0
 v0:=Tryz.zeroValue0
 t3:=Tryz.underlying3
 a3:=Tryz.isAgg3
 z3:=Tryz.sizeOf3
 v3:=Tryz.zeroValue3
 t4:=Tryz.underlying4
 a4:=Tryz.isAgg4
 z4:=Tryz.sizeOf4
 v4:=Tryz.zeroValue4
 t5:=Tryz.underlying5
 a5:=Tryz.isAgg5
 z5:=Tryz.sizeOf5
 v5:=Tryz.zeroValue5
 t9:=Tryz.underlying9
 a9:=Tryz.isAgg9
 z9:=Tryz.sizeOf9
 v9:=Tryz.zeroValue9
 t28:=Tryz.underlying27
 a28:=Tryz.isAgg27
 z28:=Tryz.sizeOf27
 v28:=Tryz.zeroValue27
 t46:=Tryz.underlying80
 a46:=Tryz.isAgg80
 z46:=Tryz.sizeOf80
 v46:=Tryz.zeroValue80
 t51:=Tryz.underlying38
 a51:=Tryz.isAgg38
 z51:=Tryz.sizeOf38
 v51:=Tryz.zeroValue38
 t53:=Tryz.underlying24
 a53:=Tryz.isAgg24
 z53:=Tryz.sizeOf24
 v53:=Tryz.zeroValue24
 t131:=Tryz.underlying202
 a131:=Tryz.isAgg202
 z131:=Tryz.sizeOf202
 v131:=Tryz.zeroValue202
 t182:=Tryz.underlying197
 a182:=Tryz.isAgg197
 z182:=Tryz.sizeOf197
 v182:=Tryz.zeroValue197
 t183:=Tryz.underlying198
 a183:=Tryz.isAgg198
 z183:=Tryz.sizeOf198
 v183:=Tryz.zeroValue198
 t218:=Tryz.underlying240
 a218:=Tryz.isAgg240
 z218:=Tryz.sizeOf240
 v218:=Tryz.zeroValue240
 t222:=Tryz.underlying244
 a222:=Tryz.isAgg244
 z222:=Tryz.sizeOf244
 v222:=Tryz.zeroValue244
 t228:=Tryz.underlying303
 a228:=Tryz.isAgg303
 z228:=Tryz.sizeOf303
 v228:=Tryz.zeroValue303
 t229:=Tryz.underlying304
 a229:=Tryz.isAgg304
 z229:=Tryz.sizeOf304
 v229:=Tryz.zeroValue304
}
def qpm (xs:List Int):List Int:=xs.mergeSort fun x y=>decide (x≤y)
theorem qnh (xs:List Int):(qpm xs).length=xs.length:=List.length_mergeSort ..
theorem qod {φ:Fz}:∀ {xs:List Int} {flat:List Value},Alls φ (xs.flatMap tI64.cells) flat→flat=xs.map (Value.int .i64)
 | [],[],_=>rfl
 | x :: xs,v :: flat,h=>by
  have h':(Is (.int .i64 x)).ok φ v∧Alls φ (xs.flatMap tI64.cells) flat:=h
  rw [show v = .int .i64 x from h'.1,qod h'.2];rfl
theorem qt7 {φ:Fz}:∀ xs:List Int,Alls φ (xs.flatMap tI64.cells) (xs.map (Value.int .i64))
 | []=>trivial
 | x :: xs=>(⟨rfl,qt7 xs⟩:(Is (.int .i64 x)).ok φ (.int .i64 x)∧Alls φ (xs.flatMap tI64.cells) (xs.map (Value.int .i64)))
theorem zc0 (xs:List Int):ones (xs.map (Value.int .i64)):=fun u hu=>by
 obtain ⟨x,_,rfl⟩:=List.mem_map.1 hu
 rfl
theorem cells_at {w:World} {g:Nat} {cur:Array Value} {e:TypeId} (h:w.heap[g]?=some (.cells cur e (0,0))) (j:Nat) (u:Value) (hu:cur[j]?=some u):w.cell? ⟨g,j,none⟩=some u∧w.frozen? ⟨g,j,none⟩=false:=by
 simp [World.cell?,World.frozen?,h,hu]
theorem put_at (d:Array Int) (c:Array Value) (hd:d.size≤c.size):(Go.Sort.putCells (Value.int .i64) 0 d c).size=c.size∧(Go.Sort.putCells (Value.int .i64) 0 d c).toList.take d.size=d.toList.map (Value.int .i64):=by
 have hs:(Go.Sort.putCells (Value.int .i64) 0 d c).size=c.size:=by simp [Go.Sort.putCells]
 refine ⟨hs,?_⟩
 apply List.ext_getElem?
 intro k
 rcases Nat.lt_or_ge k d.size with hk|hk
 ·rw [List.getElem?_take_of_lt hk,Array.getElem?_toList,List.getElem?_map,Array.getElem?_toList]
  simp only [Go.Sort.putCells,Array.getElem?_mapIdx]
  rw [Array.getElem?_eq_getElem (by omega),Array.getElem?_eq_getElem hk]
  simp [hk]
 ·rw [List.getElem?_eq_none (by simp;omega),List.getElem?_eq_none (by simp;omega)]
theorem heap_put (w:World) (n g:Nat) (os:Array Obj) (d:Array Int) (cur:Array Value) (e:TypeId) (h:w.heap[g]?=some (.cells cur e (0,0))) :
  Kpt [g] w (Go.Sort.grow (Go.Sort.putRow (Value.int .i64) (Go.Sort.ahead w n) g 0 d) os)∧(Go.Sort.grow (Go.Sort.putRow (Value.int .i64) (Go.Sort.ahead w n) g 0 d) os).heap[g]?=some (.cells (Go.Sort.putCells (Value.int .i64) 0 d cur) e (0,0)):=by
 have hlt:g<w.heap.size:=by
  rcases Nat.lt_or_ge g w.heap.size with h1|h1
  ·exact h1
  ·rw [Array.getElem?_eq_none h1] at h;cases h
 have hsz:(w.heap.modify g (Go.Sort.onCells (Go.Sort.putCells (Value.int .i64) 0 d))).size=w.heap.size:=by simp
 refine ⟨⟨rfl,rfl,rfl,?_,fun k hk hx=>?_⟩,?_⟩
 ·show w.heap.size≤((w.heap.modify g (Go.Sort.onCells (Go.Sort.putCells (Value.int .i64) 0 d)))++os).size
  simp
 ·show ((w.heap.modify g (Go.Sort.onCells (Go.Sort.putCells (Value.int .i64) 0 d)))++os)[k]?=w.heap[k]?
  rw [Array.getElem?_append_left (by rw [hsz];exact hk),Array.getElem?_modify,if_neg (fun e=>hx (by simp [e]))]
 ·show ((w.heap.modify g (Go.Sort.onCells (Go.Sort.putCells (Value.int .i64) 0 d)))++os)[g]?=_
  rw [Array.getElem?_append_left (by rw [hsz];exact hlt),Array.getElem?_modify,if_pos rfl,h]
  rfl
theorem zel {φ:Fz} {w:World} {e:TypeId} {xs ys:List Int} {g cap n m:Nat} {cur:Array Value} (os:Array Obj) (hm:Mem φ [buf (.slice (some ⟨g,0,none⟩) xs.length cap) e tI64 xs] w)
  (h2:w.heap[g]?=some (.cells cur e (0,0))) (h3:xs.length≤cap) (h4:cap≤maxLen) (h5:cur.size=cap) (zs:List Int) (hz:zs.length=xs.length) (hy:ys=zs.take m) (hmz:m≤zs.length) :
  HP ⟨w,φ,qb9 [buf (.slice (some ⟨g,0,none⟩) xs.length cap) e tI64 xs],[]⟩ φ [buf (.slice (some ⟨g,0,none⟩) m cap) e tI64 ys] (Go.Sort.grow (Go.Sort.putRow (Value.int .i64) (Go.Sort.ahead w n) g 0 zs.toArray) os):=by
 obtain ⟨hk,hh⟩:=heap_put w n g os zs.toArray cur e h2
 have hit:=hm.items _ (List.mem_singleton.2 rfl)
 have hb:=hit.2 g rfl
 obtain ⟨p1,p2⟩:=put_at zs.toArray cur (by simp;omega)
 have hyl:ys.length=m:=by rw [hy,List.length_take];omega
 refine (HP.start hm).upd (it':=buf (.slice (some ⟨g,0,none⟩) m cap) e tI64 ys) (Repl.head _ _ _) hk ⟨⟨ys.map (Value.int .i64),?_,qt7 ys,zc0 ys,.inr ⟨g,cap,Go.Sort.putCells (Value.int .i64) 0 zs.toArray cur,by rw [hyl],?_,by omega,h4,?_,?_⟩⟩,fun b hbb=>?_⟩ (fun b hb'=>.inr hb')
 ·simp [tI64]
 ·exact hh
 ·rw [p1,h5];simp [tI64]
 ·rw [hyl]
  show (Go.Sort.putCells (Value.int .i64) 0 zs.toArray cur).toList.take (m*1)=_
  rw [Nat.mul_one,hy,List.map_take]
  have h9:(Go.Sort.putCells (Value.int .i64) 0 zs.toArray cur).toList.take m=((Go.Sort.putCells (Value.int .i64) 0 zs.toArray cur).toList.take zs.toArray.size).take m:=by
   rw [List.take_take,Nat.min_eq_left (by simpa using hmz)]
  rw [h9,p2]
 ·have e1:some g=some b:=hbb
  cases e1
  exact ⟨Nat.lt_of_lt_of_le hb.1 hk.size,hb.2⟩
theorem qt1 {w:World} {e:TypeId} {xs:List Int} {g:Nat} {cur:Array Value} {flat:List Value} (h:w.heap[g]?=some (.cells cur e (0,0))) (hf:flat=xs.map (Value.int .i64)) (h6:cur.toList.take xs.length=flat):Go.Sort.Holds (Value.int .i64) w g 0 xs.toArray:=by
 intro j hj
 have hj':j<xs.length:=by simpa using hj
 have hc:cur[j]?=some (.int .i64 xs[j]):=by
  have h7:(cur.toList.take xs.length)[j]?=some (.int .i64 xs[j]):=by
   rw [h6,hf,List.getElem?_map,List.getElem?_eq_getElem hj'];rfl
  rw [List.getElem?_take_of_lt hj',Array.getElem?_toList] at h7
  exact h7
 have:=cells_at h j _ hc
 simpa [hj'] using this
theorem sortB_ok (xs:List Int) (i:Option Addr×Nat) (hn:xs.length≤1048576) :
  Fn Tryz.prog 138 [Is (slV xs.length i)] [buf (slV xs.length i) 3 tI64 xs] (fun _:Unit=>qbu []) (fun _=>[buf (slV xs.length i) 3 tI64 (qpm xs)]):=by
 intro φ w vs ha hm
 obtain rfl:vs=[slV xs.length i]:=by
  match vs,ha with
  | [v],h=>rw [show v=slV xs.length i from h.1]
 obtain ⟨⟨flat,f0,f1,f2,f3⟩,hb⟩:=hm.items _ (List.mem_singleton.2 rfl)
 rcases f3 with ⟨e1,e2⟩|⟨g,cap,cur,e1,e2,e3,e4,e5,e6⟩
 ·have hx:xs=[]:=List.eq_nil_of_length_eq_zero e2
  subst hx
  refine (SortI_ok 0 i (by omega) φ w _ ha ⟨hm.base,by simp,List.Pairwise.nil⟩).mono ?_
  rintro e w' ⟨_,v,φ',rfl,h1,h2⟩
  refine ⟨(),v,φ',rfl,h1,?_⟩
  have e3:qpm []=[]:=by simp [qpm]
  rw [e3,e1]
  exact h2.buf0 _ _
 ·have hg:w.heap[g]?=some (.cells cur 3 (0,0)):=by
   have h9:(buf (slV xs.length i) 3 tI64 xs).at_=some g:=by show (slV xs.length i).ownBlock=_;rw [e1];rfl
   rw [h9] at e2;exact e2
  rw [e1] at hm ⊢
  have e5':cur.size=cap:=by simpa [tI64] using e5
  have e6':cur.toList.take xs.length=flat:=by simpa [tI64] using e6
  have hlt:=(hm.items _ (List.mem_singleton.2 rfl)).2 g rfl
  refine (Any.slices_Sort_int shLays g 0 cap xs w (qt1 hg (qod f1) e6') hlt.1 (by omega)).mono ?_
  rintro e w' ⟨rfl,n,os,rfl⟩
  refine ⟨(),.tuple #[],φ,rfl,⟨[],rfl,trivial⟩,?_⟩
  exact zel os hm hg e3 e4 e5' (qpm xs) (qnh xs) (by rw [← qnh xs,List.take_length]) (by rw [qnh];exact Nat.le_refl _)
def shRen2:Go.Shelf.Ren:=⟨fun|20=>139|n=>n,fun|0=>0|3=>3|4=>4|22=>27|n=>n,fun n=>n⟩
theorem shLays2:Lays2.n20 Tryz.prog shRen2:={
 mixed:=by kernel_rfl
 f20:=func139.trans (congrArg some (by kernel_rfl))
 t0:=Tryz.underlying0
 a0:=Tryz.isAgg0
 z0:=Tryz.sizeOf0
 v0:=Tryz.zeroValue0
 t3:=Tryz.underlying3
 a3:=Tryz.isAgg3
 z3:=Tryz.sizeOf3
 v3:=Tryz.zeroValue3
 t4:=Tryz.underlying4
 a4:=Tryz.isAgg4
 z4:=Tryz.sizeOf4
 v4:=Tryz.zeroValue4
 t22:=Tryz.underlying27
 a22:=Tryz.isAgg27
 z22:=Tryz.sizeOf27
 v22:=Tryz.zeroValue27
 i3:=by kernel_rfl
}
def qsq (xs:List Int):List Int:=Lib.compact xs
theorem grow0 (w:World):Go.Sort.grow w #[]=w:=by simp [Go.Sort.grow]
theorem qwh (xs:List Int) (i:Option Addr×Nat) (hn:xs.length≤1048576) (hc:(qsq xs).length≤xs.length) :
  Fn Tryz.prog 139 [Is (slV xs.length i)] [buf (slV xs.length i) 3 tI64 xs] (fun _:Unit=>Is (slV (qsq xs).length i)) (fun _=>[buf (slV (qsq xs).length i) 3 tI64 (qsq xs)]):=by
 intro φ w vs ha hm
 obtain rfl:vs=[slV xs.length i]:=by
  match vs,ha with
  | [v],h=>rw [show v=slV xs.length i from h.1]
 obtain ⟨⟨flat,f0,f1,f2,f3⟩,hb⟩:=hm.items _ (List.mem_singleton.2 rfl)
 rcases f3 with ⟨e1,e2⟩|⟨g,cap,cur,e1,e2,e3,e4,e5,e6⟩
 ·have hx:xs=[]:=List.eq_nil_of_length_eq_zero e2
  subst hx
  refine (qw2 0 i (by omega) φ w _ ha ⟨hm.base,by simp,List.Pairwise.nil⟩).mono ?_
  rintro e w' ⟨_,v,φ',rfl,h1,h2⟩
  have e3:qsq []=[]:=rfl
  refine ⟨(),v,φ',rfl,h1,?_⟩
  rw [e3,e1]
  exact h2.buf0 _ _
 ·have hg:w.heap[g]?=some (.cells cur 3 (0,0)):=by
   have h9:(buf (slV xs.length i) 3 tI64 xs).at_=some g:=by show (slV xs.length i).ownBlock=_;rw [e1];rfl
   rw [h9] at e2;exact e2
  have e7:∀ m,slV m i = .slice (some ⟨g,0,none⟩) m cap:=fun m=>by
   have h8:(Value.slice i.1 xs.length i.2) = .slice (some ⟨g,0,none⟩) xs.length cap:=e1
   have h9:i.1=some ⟨g,0,none⟩∧i.2=cap:=by injection h8 with a b d;exact ⟨a,d⟩
   show Value.slice i.1 m i.2=_
   rw [h9.1,h9.2]
  rw [e1] at hm ⊢
  rw [e7]
  have e5':cur.size=cap:=by simpa [tI64] using e5
  have e6':cur.toList.take xs.length=flat:=by simpa [tI64] using e6
  refine (Any.slices_Compact_int shLays2 g 0 cap xs w (qt1 hg (qod f1) e6') (by omega) e3).mono ?_
  rintro e w' ⟨rfl,n,rfl⟩
  refine ⟨(),_,φ,rfl,rfl,?_⟩
  rw [← grow0 (Go.Sort.putRow _ _ _ _ _)]
  exact zel #[] hm hg e3 e4 e5' (Lib.compact xs++List.replicate (xs.length-(Lib.compact xs).length) 0) (by unfold qsq at hc;simp;omega) (by unfold qsq;rw [List.take_left]) (by unfold qsq;simp)
@[reducible] def AscI (l:List Int):Prop:=l.Pairwise fun x y=>x<y
theorem mem_lines {x:Int}:∀ {l:List Int} {y:Int},y∈qee l x↔y=x∨y∈l
 | [],y=>by simp [qee]
 | z :: l,y=>by
  unfold qee
  split
  ·rw [List.mem_cons,mem_lines,List.mem_cons]
   constructor
   ·rintro (h|h|h)
    ·exact .inr (.inl h)
    ·exact .inl h
    ·exact .inr (.inr h)
   ·rintro (h|h|h)
    ·exact .inr (.inl h)
    ·exact .inl h
    ·exact .inr (.inr h)
  ·split
   ·rename_i he
    subst he
    rw [List.mem_cons]
    constructor
    ·exact .inr
    ·rintro (h|h)
     ·exact .inl h
     ·exact h
   ·rw [List.mem_cons]
theorem qul {x:Int}:∀ {l:List Int},AscI l→AscI (qee l x)
 | [],_=>List.pairwise_singleton _ _
 | z :: l,h=>by
  obtain ⟨h1,h2⟩:=List.pairwise_cons.1 h
  unfold qee
  split
  ·rename_i hz
   refine List.pairwise_cons.2 ⟨fun y hy=>?_,qul h2⟩
   rcases mem_lines.1 hy with rfl|h3
   ·exact hz
   ·exact h1 y h3
  ·rename_i hz
   split
   ·exact h
   ·rename_i he
    refine List.pairwise_cons.2 ⟨fun y hy=>?_,h⟩
    rcases List.mem_cons.1 hy with rfl|hy
    ·omega
    ·have:=h1 y hy;omega
theorem qn8 {y:Int}:∀ {ls W:List Int},y∈qmo W ls↔y∈W∨y∈ls
 | [],W=>by simp [qmo]
 | x :: ls,W=>by
  have e:qmo W (x :: ls)=qmo (qee W x) ls:=rfl
  rw [e,qn8,mem_lines,List.mem_cons]
  constructor
  ·rintro ((h|h)|h)
   ·exact .inr (.inl h)
   ·exact .inl h
   ·exact .inr (.inr h)
  ·rintro (h|h|h)
   ·exact .inl (.inr h)
   ·exact .inl (.inl h)
   ·exact .inr h
theorem qoq:∀ {ls W:List Int},AscI W→AscI (qmo W ls)
 | [],_,h=>h
 | x :: ls,W,h=>by
  have e:qmo W (x :: ls)=qmo (qee W x) ls:=rfl
  rw [e]
  exact qoq (qul h)
theorem qr8:∀ {xs ys:List Int},AscI xs→AscI ys→(∀ x,x∈xs↔x∈ys)→xs=ys
 | [],[],_,_,_=>rfl
 | [],y :: ys,_,_,h=>by have:=(h y).2 (List.mem_cons_self ..);simp at this
 | x :: xs,[],_,_,h=>by have:=(h x).1 (List.mem_cons_self ..);simp at this
 | x :: xs,y :: ys,h1,h2,h=>by
  obtain ⟨a1,a2⟩:=List.pairwise_cons.1 h1
  obtain ⟨b1,b2⟩:=List.pairwise_cons.1 h2
  have hxy:x=y:=by
   rcases List.mem_cons.1 ((h x).1 (List.mem_cons_self ..)) with e|hx
   ·exact e
   ·rcases List.mem_cons.1 ((h y).2 (List.mem_cons_self ..)) with e|hy
    ·exact e.symm
    ·have:=b1 x hx;have:=a1 y hy;omega
  subst hxy
  refine congrArg _ (qr8 a2 b2 fun z=>⟨fun hz=>?_,fun hz=>?_⟩)
  ·rcases List.mem_cons.1 ((h z).1 (List.mem_cons_of_mem _ hz)) with e|hz'
   ·subst e;have:=a1 z hz;omega
   ·exact hz'
  ·rcases List.mem_cons.1 ((h z).2 (List.mem_cons_of_mem _ hz)) with e|hz'
   ·subst e;have:=b1 z hz;omega
   ·exact hz'
theorem cpt_inv {zs:List Int} (hs:zs.Pairwise fun x y=>x≤y):∀ m:Nat,m≤zs.length→AscI (Lib.compactUpTo zs.toArray m)∧(∀ x,x∈Lib.compactUpTo zs.toArray m↔x∈zs.take m):=by
 intro m
 induction m with
 | zero=>intro _;exact ⟨List.Pairwise.nil,fun x=>by simp [Lib.compactUpTo]⟩
 | succ m ih =>
  intro hm
  obtain ⟨h1,h2⟩:=ih (by omega)
  have hlt:m<zs.length:=by omega
  have hg:zs.toArray[m]! = zs[m]:=by simp [hlt]
  have ht:zs.take (m+1)=zs.take m++[zs[m]]:=by rw [List.take_add_one,List.getElem?_eq_getElem hlt];rfl
  have hle:∀ x,x∈zs.take m→x≤zs[m]:=fun x hx=>by
   obtain ⟨j,hj,rfl⟩:=List.getElem_of_mem hx
   rw [List.length_take] at hj
   rw [List.getElem_take]
   exact (List.pairwise_iff_getElem.1 hs) j m (by omega) hlt (by omega)
  rw [Lib.compactUpTo_succ]
  cases hk:Lib.keeps zs.toArray m with
  | true =>
   simp only [if_true,hg,ht]
   refine ⟨List.pairwise_append.2 ⟨h1,List.pairwise_singleton _ _,fun x hx y hy=>?_⟩,fun x=>by rw [List.mem_append,List.mem_append,h2]⟩
   rw [List.mem_singleton] at hy
   subst hy
   have hx':=(h2 x).1 hx
   have h3:=hle x hx'
   rcases Nat.eq_zero_or_pos m with h0|h0
   ·subst h0;simp at hx'
   ·have hne:zs[m]≠zs[m-1]:=fun e=>by
     have:Lib.keeps zs.toArray m=false:=Lib.keeps_neg h0 (by rw [hg,e];simp [show m-1<zs.length by omega])
     rw [hk] at this;cases this
    have h4:x≤zs[m-1]:=by
     obtain ⟨j,hj,rfl⟩:=List.getElem_of_mem hx'
     rw [List.length_take] at hj
     rw [List.getElem_take]
     rcases Nat.lt_or_ge j (m-1) with h5|h5
     ·exact (List.pairwise_iff_getElem.1 hs) j (m-1) (by omega) (by omega) h5
     ·have:j=m-1:=by omega
      subst this;exact Int.le_refl _
    have h5:=(List.pairwise_iff_getElem.1 hs) (m-1) m (by omega) hlt (by omega)
    omega
  | false =>
   simp only [Bool.false_eq_true,if_false,List.append_nil,ht]
   refine ⟨h1,fun x=>?_⟩
   rw [h2,List.mem_append,List.mem_singleton]
   refine ⟨.inl,?_⟩
   rintro (h3|rfl)
   ·exact h3
   ·rcases Nat.eq_zero_or_pos m with h0|h0
    ·subst h0
     have:=Lib.keeps_lt_one zs.toArray 0 (by omega)
     rw [hk] at this;cases this
    ·have he:zs[m]=zs[m-1]:=by
      rcases Decidable.em (zs[m]=zs[m-1]) with h|h
      ·exact h
      ·have:Lib.keeps zs.toArray m=true:=Lib.keeps_pos (by rw [hg];simpa [show m-1<zs.length by omega] using h)
       rw [hk] at this;cases this
     rw [he]
     refine List.mem_of_getElem? (i:=m-1) ?_
     rw [List.getElem?_take_of_lt (by omega),List.getElem?_eq_getElem]
theorem srtI_asc (xs:List Int):(qpm xs).Pairwise fun x y=>x≤y:=by
 have h:=List.pairwise_mergeSort (le:=fun x y:Int=>decide (x≤y)) (fun a b c h1 h2=>by simp at *;omega) (fun a b=>by simp;omega) xs
 unfold qpm
 simpa using h
theorem cpt_asc (xs:List Int):AscI (qsq (qpm xs))∧∀ x,x∈qsq (qpm xs)↔x∈xs:=by
 obtain ⟨h1,h2⟩:=cpt_inv (srtI_asc xs) (qpm xs).length (Nat.le_refl _)
 refine ⟨h1,fun x=>?_⟩
 have h3:x∈qsq (qpm xs)↔x∈(qpm xs).take (qpm xs).length:=h2 x
 rw [h3,List.take_length]
 exact (List.mergeSort_perm xs _).mem_iff
theorem cpt_fold {xs ls:List Int} (h:AscI xs):qsq (qpm (xs++ls))=qmo xs ls:=by
 obtain ⟨h1,h2⟩:=cpt_asc (xs++ls)
 exact qr8 h1 (qoq h) fun x=>by rw [h2,qn8,List.mem_append]
theorem cptI_le (xs:List Int):(qsq xs).length≤xs.length:=by
 unfold qsq Lib.compact Lib.compactUpTo
 rw [List.length_map]
 exact Nat.le_trans (List.length_filter_le _ _) (by simp)
theorem qts (ks:List Pg) (ls:List Int):AscI (qc2 ks ls):=qoq List.Pairwise.nil
theorem mem_missR {ks:List Pg} {ls:List Int} {x:Int}:x∈qc2 ks ls↔x∈ls∧qhh ks x=false:=by
 unfold qc2 qhn qhh
 rw [qn8,List.mem_filter]
 constructor
 ·rintro (h|⟨h1,h2⟩)
  ·cases h
  ·exact ⟨h1,by revert h2;cases qg3 ks x <;> simp⟩
 ·rintro ⟨h1,h2⟩
  exact .inr ⟨h1,by revert h2;cases qg3 ks x <;> simp⟩
theorem cpt_miss (ks:List Pg) (ls:List Int):qsq (qpm (qhn ks ls))=qc2 ks ls:=cpt_fold (xs:=[]) List.Pairwise.nil
theorem qv6 (ks:List Pg) (ls:List Int) (hn:ls.length≤1000000):FnP Tryz.prog 94 [IsSl tPg ks,IsSl tI64 ls] (IsSl tI64 (qc2 ks ls)):=by
 have hvl:(qhn ks ls).length≤ls.length:=List.length_filter_le _ _
 have hsl:=qnh (qhn ks ls)
 have hcl:(qsq (qpm (qhn ks ls))).length≤(qpm (qhn ks ls)).length:=cptI_le _
 refine FnP.enter func94 ntmps94 rfl rfl ?_
 intro c hX
 refine qgv (t:=1) rfl (fun hlen=>?_)
 refine t12 ?_
 refine qcd 3 tI64 ?_
 refine t7 ?_
 refine qbg (fun z:Nat×(Option Addr×Nat)=>z.1≤ls.length) (fun z=>[(0,IsSl tPg ks),(1,IsSl tI64 ls),(5,Is (slV (qhn ks (ls.take z.1)).length z.2)),(10,IsSl tI64 ls),(11,Is (.int .i64 (ls.length:Nat))),(12,Is (.int .i64 (z.1:Nat)))]) (fun z=>[buf (slV (qhn ks (ls.take z.1)).length z.2) 3 tI64 (qhn ks (ls.take z.1))]) (fun z=>ls.length-z.1) (0,(none,0)) (Nat.zero_le _) qbt qab ?_
 rintro ⟨k,s⟩ hk
 dsimp only at hk ⊢
 refine t6 ?_
 refine cN ?_ ?_ <;> intro h3
 ·have hlt:k<ls.length:=by have:=of_decide_eq_true h3;omega
  clear h3
  obtain ⟨l,hz⟩:∃ z,ls[k]?=some z:=⟨ls[k],List.getElem?_eq_getElem hlt⟩
  have hmt:=qtr (ks:=ks) hz
  have hml:(qhn ks (ls.take k)).length≤(qhn ks ls).length:=((List.take_sublist _ _).filter _).length_le
  refine t15 ?_
  refine kS call52 (qo0 _ _) ?_
  refine t4 ?_
  intro i8
  refine t10 ?_
  refine cN ?_ ?_ <;> intro h6
  ·have g:(qg3 ks l).isNone=true:=by revert h6;cases qg3 ks l <;> simp
   clear h6
   rw [if_pos g] at hmt
   refine t3 ?_
   refine qap rfl (qcm (size:=1) (qs:=[(0,_)]) rfl rfl rfl ⟨⟨rfl,_,(er rfl),qa6⟩,trivial⟩ rf rf) ?_
   (refine qew rfl (qb6 (er rfl) (fun _=>qae) (by exact Ev.sub rfl (by exact SubL.row (xs:=[l]) rf rf qex)) (by exact qej rfl rfl rfl) qb8) ?_;intro i27)
   refine t8 ?_
   rw [← hmt]
   exact qaa (k+1,i27) (by dsimp only;omega) (by dsimp only;omega) qbt qab
  have g:¬ (qg3 ks l).isNone=true:=by revert h6;cases qg3 ks l <;> simp
  clear h6
  rw [if_neg g] at hmt
  refine t7 ?_
  rw [← hmt]
  exact qaa (k+1,s) (by dsimp only;omega) (by dsimp only;omega) qbt qab
 have hke:k=ls.length:=by have:=of_decide_eq_false h3;omega
 subst hke
 clear h3
 rw [List.take_length]
 refine t8 ?_
 (refine qew rfl (by ((refine qhq qbs call138 (sortB_ok (qhn ks ls) s ?_) ⟨evS,trivial⟩);all_goals (omega))) ?_;intro i30)
 refine t3 ?_
 rw [← hsl]
 refine t2 ?_
 (refine qew rfl (by ((refine qhq qbs call139 (qwh (qpm (qhn ks ls)) s ?_ hcl) ⟨evS,trivial⟩);all_goals (omega))) ?_;intro i32)
 refine t4 ?_
 refine qgl hX (v:=slV (qsq (qpm (qhn ks ls))).length s) qae ?_
 rw [← cpt_miss ks ls]
 exact qan (Bs:=[IsSl tI64 (qsq (qpm (qhn ks ls)))]) results94 eT () SubL.rfl' (List.nil_sublist _)
def ask2 (o fr:Int):List Int:=if decide (fr≥0)=true then [98+o,98+fr] else [98+o]
def ndA (n:Nd) (s inc:Int):Nd:=⟨n.pin,n.ep,n.sg|||BitVec.ofInt 32 1<<<s.toNat,inc,n.r0,n.r1,n.r2,n.r3⟩
def hdA (p:Pg) (o:Int):Pg:={ p with d0:=BitVec.ofInt 64 (o+1) }
def acW (ks:List Pg) (o inc s:Int) (nd:Pg×Nd×Int) (wr:List Pg):S19:={ S19.nil with s:=s,over:=true,writes:=qb7 wr [(qck nd.1 (ndA nd.2.1 s inc)).1,hdA (qbk ks (qau s)) o] }
def lowB (bm:BitVec 32):Nat→Int→Int
 | 0,s=>s
 | k+1,s=>if qp9 bm k=true then lowB bm k (k:Int) else lowB bm k s
def qyt:Nat→List Int
 | 0=>[]
 | k+1=>qyt k++[qau (k:Int)]
def kF (o:Int) (n i:Nat):Int:=(o+(i:Int)).tmod (n:Int)
def frB (ks:List Pg) (k:Int):Bool:=(!qef (qbk ks (qau k))&&(qcv (qbk ks (qau k))).2==0)&&(qcv (qbk ks (qau k))).1.owner == -1
def frL (ks:List Pg) (o:Int) (n:Nat):Nat→Nat→Int→Int
 | 0,_,s=>s
 | m+1,i,s=>if decide (s<0)=true then (if frB ks (kF o n i)=true then frL ks o n m (i+1) (kF o n i) else frL ks o n m (i+1) s) else s
def acT (ks:List Pg) (o inc fr:Int) (nd ot:Pg×Nd×Int) (s:Int):S19:=
 if decide (s<0)=true then qfu 16 else
 if decide (((qc2 ks [qau s]).length:Int)>0)=true then qrf (qc2 ks [qau s]) else
 if qef (qbk ks (qau s))=true then qfu 3 else
 if ((qcv (qbk ks (qau s))).2 != 0)=true then qfu 14 else
 if ((qcv (qbk ks (qau s))).1.owner != fr)=true then qfu 11 else
 acW ks o inc s nd [qwk ot.1 s]
def acU (ks:List Pg) (o inc:Int) (nd:Pg×Nd×Int) (s:Int):S19:=if decide (s<0)=true then qfu 12 else acW ks o inc s nd []
def acR (ks:List Pg) (o inc lines fr:Int):S19:=
 if (((((!clB o lines||decide (inc<1))||decide (inc>59))||decide (fr < -1))||decide (fr≥6))||fr==o)=true then qfu 1 else
 if decide (((qc2 ks (ask2 o fr)).length:Int)>0)=true then qrf (qc2 ks (ask2 o fr)) else
 if ((qhv ks o).2.2 != 0)=true then qfu (qhv ks o).2.2 else
 if decide (fr≥0)=true then
  if ((qhv ks fr).2.2 != 0)=true then qfu (qhv ks fr).2.2 else
  acT ks o inc fr (qhv ks o) (qhv ks fr) (lowB (qhv ks fr).2.1.sg (qb4 lines) (-1))
 else
  if decide (((qc2 ks (qyt (qb4 lines))).length:Int)>0)=true then qrf (qc2 ks (qyt (qb4 lines))) else
  acU ks o inc (qhv ks o) (frL ks o (qb4 lines) (qb4 lines) 0 (-1))
theorem qro:∀ k,(qyt k).length=k
 | 0=>rfl
 | k+1=>by unfold qyt;rw [List.length_append,qro k];rfl
theorem ask2_len (o fr:Int):(ask2 o fr).length≤1000000:=by unfold ask2;split <;> simp
theorem qel (B:Nat) (e:Int):FnP Tryz.prog 79 [Is (.int .i64 e)] (IsS19F B { S19.nil with code:=e,over:=true }):=by
 refine FnP.enter func79 ntmps79 rfl rfl ?_
 intro c hX
 refine t3 ?_
 intro i2
 refine t10 ?_
 exact qan (Bs:=[_]) results79 eRF () SubL.rfl' (List.nil_sublist _)
theorem qw3 (ks:List Pg) (o inc lines fr:Int) (hks:ks.length≤10000):FnF Tryz.prog 47 [Is (.int .i64 o),Is (.int .i64 inc),Is (.int .i64 lines),Is (.int .i64 fr),IsSl tPg ks] (fun B=>IsS19F B (acR ks o inc lines fr)):=by
 obtain ⟨W,hE⟩:∃ W,acR ks o inc lines fr=W:=⟨_,rfl⟩
 rw [hE]
 unfold acR at hE
 refine FnF.enter func47 ntmps47 rfl rfl ?_
 intro c hX
 refine t3 ?_
 intro i10
 refine t7 ?_
 refine kRF call78 (qf5 _ _) ?_
 refine t24 ?_
 refine cN ?_ ?_ <;> intro h1
 ·replace hE:=qa4 hE h1
  refine t2 ?_
  refine kRF call79 (qel c.w.heap.size _) ?_
  refine t5 ?_
  subst hE
  exact qan (Bs:=[_]) results47 eRF () SubL.rfl' (List.nil_sublist _)
 rw [ifF h1] at hE
 have hcl:(0≤o∧o<6)∧(104≤lines∧lines≤256)∧(1≤inc∧inc≤59) ∧ -1≤fr∧fr<6:=by unfold clB at h1;simp at h1;omega
 obtain ⟨ho,hli,hinc,hfr⟩:=hcl
 have hal:=ask2_len o fr
 have hcn:=qe2 lines
 clear h1
 refine t6 ?_
 refine qap rfl (qac (size:=1) (qs:=[(0,_)]) rfl rfl rfl ⟨⟨rfl,_,(er rfl),qag⟩,trivial⟩ rf rf) ?_
 refine t10 ?_
 refine qb1 [(0,_),(1,_),(2,_),(3,_),(4,_),(10,_)] [blk i10 _ _] (fun z:Unit=>True) (fun z=>[(11,IsSl tI64 (ask2 o fr))]) (fun z=>[]) qa9 qab ?_ ?_
 rotate_left
 focus
  refine cN ?_ ?_ <;> intro h4
  ·have e:ask2 o fr=[98+o,98+fr]:=by unfold ask2;rw [ifT h4]
   refine t4 ?_
   refine qap rfl (OpP.to (qac (size:=1) (qs:=[(0,_)]) rfl rfl rfl ⟨⟨rfl,_,(er rfl),qag⟩,trivial⟩ rf rf) (SubL.row1 (T:=tI64) (x:=_) rf rf rf qak)) ?_
   refine qap rfl (qtl (T:=tI64) ([98+o]) (er rfl) subzT rfl rfl (by exact er rfl) (by exact qej rfl rfl rfl) qb8) ?_
   refine t2 ?_
   exact qai () trivial (by rw [e];exact qa9) qab
  have e:ask2 o fr=[98+o]:=by unfold ask2;rw [ifF h4]
  refine s1 ?_
  exact qai () trivial (by rw [e];exact qa9) qab
 rintro ⟨⟩ _
 refine t4 ?_
 refine qap rfl (by ((refine qad call31 (qg7 _ _ ?_) ⟨qaq,⟨qaq,trivial⟩⟩);all_goals (first|first|assumption|(simp;done)))) ?_
 refine t11 ?_
 refine cN ?_ ?_ <;> intro h7
 ·replace hE:=qa4 hE h7
  refine t9 ?_
  subst hE
  exact qan (Bs:=[_]) results47 eRF () SubL.rfl' (List.nil_sublist _)
 replace hE:=qba hE h7
 refine t6 ?_
 refine qap rfl (by ((refine qad call80 (qmh _ _ ?_) ⟨qaq,⟨qaq,trivial⟩⟩);all_goals (assumption))) ?_
 refine t5 ?_
 intro i13
 refine s1 ?_
 intro i14
 refine t7 ?_
 generalize qhv ks o=nd at hE ⊢
 refine t5 ?_
 refine cN ?_ ?_ <;> intro h10
 ·replace hE:=qa4 hE h10
  refine t3 ?_
  refine kRF call79 (qel c.w.heap.size _) ?_
  refine t5 ?_
  subst hE
  exact qan (Bs:=[_]) results47 eRF () SubL.rfl' (List.nil_sublist _)
 replace hE:=qba hE h10
 refine t5 ?_
 refine kRF call81 (qql _) ?_
 refine t20 ?_
 refine cN ?_ ?_ <;> intro h15
 ·rw [ifT h15] at hE
  have hfr6:0≤fr∧fr<6:=⟨of_decide_eq_true h15,hfr.2⟩
  clear h15
  refine t4 ?_
  refine qap rfl (by ((refine qad call80 (qmh _ _ ?_) ⟨qaq,⟨qaq,trivial⟩⟩);all_goals (assumption))) ?_
  refine t5 ?_
  intro i19
  refine s1 ?_
  intro i20
  refine t7 ?_
  generalize qhv ks fr=ot at hE ⊢
  refine t5 ?_
  refine cN ?_ ?_ <;> intro h17
  ·replace hE:=qa4 hE h17
   refine t3 ?_
   refine kRF call79 (qel c.w.heap.size _) ?_
   refine t6 ?_
   subst hE
   exact qan (Bs:=[_]) results47 eRF () SubL.rfl' (List.nil_sublist _)
  replace hE:=qba hE h17
  refine t11 ?_
  refine qav [(0,_),(1,_),(3,_),(4,_),(10,_),(12,_),(13,_),(14,_),(18,_),(19,_),(20,_)] [blk i20 _ _,blk i19 _ _,blk i14 _ _,blk i13 _ _,blk i10 _ _] (fun y:Nat×Int=>y.1≤qb4 lines∧(-1≤y.2∧y.2≤8)∧acT ks o inc fr nd ot (lowB ot.2.1.sg y.1 y.2)=W) (fun y=>[(17,Is (.int .i64 y.2)),(22,Is (.int .i64 (((y.1:Nat):Int)-1)))]) (fun y=>[]) (fun y=>y.1) (qb4 lines,-1) ⟨by omega,⟨by omega,by omega⟩,hE⟩ qa9 qab ?_
  clear hE
  rintro ⟨k,s⟩ ⟨hk,hI,hE⟩
  dsimp only at hk hI hE ⊢
  refine t7 ?_
  refine cN ?_ ?_ <;> intro h20
  ·obtain ⟨kd,rfl⟩:∃ q,k=q+1:=⟨k-1,by have:=of_decide_eq_true h20;omega⟩
   clear h20
   refine qb0 22 (Is (.int .i64 (kd:Nat))) rfl (SubL.eq (by rw [show (((kd+1:Nat):Int)-1)=((kd:Nat):Int) by omega])) ?_
   rw [lowB] at hE
   have hkd:-1≤(kd:Int)∧(kd:Int)≤8:=⟨by omega,by omega⟩
   refine t15 ?_
   refine cN ?_ ?_ <;> intro h22
   ·rw [ifT (show qp9 ot.2.1.sg kd=true from h22)] at hE
    refine t11 ?_
    exact qaa (kd,_) ⟨by omega,by exact hkd,hE⟩ (by omega) qa9 qab
   rw [ifF (show qp9 ot.2.1.sg kd=false from h22)] at hE
   refine t8 ?_
   exact qaa (kd,_) ⟨by omega,by exact ⟨by omega,by omega⟩,hE⟩ (by omega) qa9 qab
  have hke:k=0:=by have:=of_decide_eq_false h20;omega
  clear h20
  subst hke
  rw [lowB] at hE
  unfold acT at hE
  refine t12 ?_
  refine cN ?_ ?_ <;> intro h24
  ·replace hE:=qa4 hE h24
   refine t2 ?_
   refine kRF call79 (qel c.w.heap.size _) ?_
   refine t6 ?_
   subst hE
   exact qan (Bs:=[_]) results47 eRF () SubL.rfl' (List.nil_sublist _)
  replace hE:=qba hE h24
  refine t6 ?_
  refine kRF call82 (qcb _) ?_
  refine qap rfl (OpP.to (qac (size:=1) (qs:=[(0,_)]) rfl rfl rfl ⟨⟨rfl,_,(er rfl),qag⟩,trivial⟩ rf rf) (SubL.row1 (T:=tI64) (x:=_) rf rf rf qak)) ?_
  refine qap rfl (by ((refine qad call31 (qg7 _ [qau s] ?_) ⟨qaq,⟨qaq,trivial⟩⟩);all_goals (simp))) ?_
  refine t11 ?_
  refine cN ?_ ?_ <;> intro h27
  ·replace hE:=qa4 hE h27
   refine t10 ?_
   subst hE
   exact qan (Bs:=[_]) results47 eRF () SubL.rfl' (List.nil_sublist _)
  replace hE:=qba hE h27
  refine t6 ?_
  refine kRF call82 (qcb _) ?_
  refine kRF call32 (qby _ _) ?_
  refine t4 ?_
  intro i23
  refine t6 ?_
  generalize hq29:qbk ks (qau s)=q at hE ⊢
  refine t2 ?_
  refine kRF call33 (qcc _) ?_
  refine t2 ?_
  refine cN ?_ ?_ <;> intro h30
  ·replace hE:=qa4 hE h30
   refine t2 ?_
   refine kRF call79 (qel c.w.heap.size _) ?_
   refine t6 ?_
   subst hE
   exact qan (Bs:=[_]) results47 eRF () SubL.rfl' (List.nil_sublist _)
  replace hE:=qba hE h30
  refine t5 ?_
  refine kRF call83 (qgb _) ?_
  refine t4 ?_
  intro i25
  refine t6 ?_
  generalize qcv q=hh at hE ⊢
  refine t5 ?_
  refine cN ?_ ?_ <;> intro h33
  ·replace hE:=qa4 hE h33
   refine t2 ?_
   refine kRF call79 (qel c.w.heap.size _) ?_
   refine t6 ?_
   subst hE
   exact qan (Bs:=[_]) results47 eRF () SubL.rfl' (List.nil_sublist _)
  replace hE:=qba hE h33
  refine t11 ?_
  refine cN ?_ ?_ <;> intro h35
  ·replace hE:=qa4 hE h35
   refine t2 ?_
   refine kRF call79 (qel c.w.heap.size _) ?_
   refine t6 ?_
   subst hE
   exact qan (Bs:=[_]) results47 eRF () SubL.rfl' (List.nil_sublist _)
  rw [ifF h35] at hE
  unfold acW at hE
  rw [hq29] at hE
  have hs0:0≤s∧s≤8:=by have:=of_decide_eq_false h24;omega
  refine t9 ?_
  refine qap rfl (by exact qed (k:=s.toNat) qgp (er rfl) (by omega) qct) ?_
  refine t9 ?_
  refine qap rfl (qac (size:=9) (qs:=[(0,_)]) rfl rfl rfl ⟨⟨rfl,_,(er rfl),qag⟩,trivial⟩ rf rf) ?_
  (refine qwx rfl (zcy (T:=tPg) (er rfl) (by exact Ev.sub rfl (by exact SubL.row (xs:=[qwk ot.1 s]) rf rf qw8)) (by exact qej rfl rfl rfl) qb8) ?_;intro i171)
  refine t4 ?_
  refine qa7 hX (v:=slV [qwk ot.1 s].length i171) qae ?_
  refine qb0 18 (IsSl tPg [qwk ot.1 s]) rfl qgw ?_
  refine t5 ?_
  refine qap rfl (by exact qgf (k:=s.toNat) qmq (er rfl) (by omega) qct) ?_
  refine t16 ?_
  refine kRF call39 (qep nd.1 (ndA nd.2.1 s inc)) ?_
  refine t4 ?_
  intro i35
  refine t5 ?_
  generalize qck nd.1 (ndA nd.2.1 s inc)=wn at hE ⊢
  refine t3 ?_
  refine kRF call82 (qcb _) ?_
  refine kRF call32 (qby _ _) ?_
  refine t4 ?_
  intro i37
  refine t5 ?_
  rw [hq29]
  refine t3 ?_
  refine qap rfl (qfg (er rfl) rfl rfl (qh4 _)) ?_
  refine t11 ?_
  refine qap rfl (qac (size:=9) (qs:=[(0,_),(1,_)]) rfl rfl rfl ⟨⟨rfl,_,(er rfl),qag⟩,⟨⟨rfl,_,(er rfl),qag⟩,trivial⟩⟩ rf rf) ?_
  refine qap rfl (by ((refine qaw call72 (qcf _ [wn.1,hdA q o] ?_) ⟨qaq,⟨qaq,trivial⟩⟩);all_goals (simp))) ?_
  refine t5 ?_
  subst hE
  exact qan (Bs:=[_]) results47 eRF () SubL.rfl' (List.nil_sublist _)
 rw [ifF h15] at hE
 have hfrn:fr = -1:=by have:=of_decide_eq_false h15;omega
 clear h15
 refine t12 ?_
 refine qcd 3 tI64 ?_
 refine qav [(0,_),(1,_),(4,_),(10,_),(12,_),(13,_),(14,_),(16,_),(17,_),(18,_)] [blk i14 _ _,blk i13 _ _,blk i10 _ _] (fun y:Nat×(Option Addr×Nat)=>y.1≤qb4 lines) (fun y=>[(27,Is (slV (qyt y.1).length y.2)),(28,Is (.int .i64 (y.1:Nat)))]) (fun y=>[buf (slV (qyt y.1).length y.2) 3 tI64 (qyt y.1)]) (fun y=>qb4 lines-y.1) (0,(none,0)) (Nat.zero_le _) qa9 qab ?_
 rintro ⟨k,v_0⟩ hk
 dsimp only at hk ⊢
 refine t8 ?_
 refine cN ?_ ?_ <;> intro h41
 ·have hlt:k<qb4 lines:=by have:=of_decide_eq_true h41;omega
  clear h41
  have hmt:qyt (k+1)=qyt k++[qau (k:Int)]:=rfl
  have hhl:=qro k
  refine t7 ?_
  refine kRF call82 (qcb _) ?_
  refine qap rfl (OpP.to (qac (size:=1) (qs:=[(0,_)]) rfl rfl rfl ⟨⟨rfl,_,(er rfl),qag⟩,trivial⟩ rf rf) (SubL.row1 (T:=tI64) (x:=_) rf rf rf qak)) ?_
  (refine qew rfl (qb6 (er rfl) (fun _=>qae) (by exact er rfl) (by exact qej rfl rfl rfl) qb8) ?_;intro i181)
  refine t9 ?_
  rw [← hmt]
  exact qaa (k+1,i181) (by omega) (by omega) qa9 qab
 have hke:k=qb4 lines:=by have:=of_decide_eq_false h41;omega
 clear h41
 subst hke
 have hhl:=qro (qb4 lines)
 refine qa7 hX (v:=slV (qyt (qb4 lines)).length v_0) qae ?_
 refine qb0 27 (IsSl tI64 (qyt (qb4 lines))) rfl qgw ?_
 have hhm:(qyt (qb4 lines)).length≤1000000:=by omega
 refine t9 ?_
 refine qap rfl (by ((refine qad call31 (qg7 _ (qyt (qb4 lines)) ?_) ⟨qaq,⟨qaq,trivial⟩⟩);all_goals (assumption))) ?_
 refine t11 ?_
 refine cN ?_ ?_ <;> intro h45
 ·replace hE:=qa4 hE h45
  refine t10 ?_
  subst hE
  exact qan (Bs:=[_]) results47 eRF () SubL.rfl' (List.nil_sublist _)
 rw [ifF h45] at hE
 have hn9:qb4 lines≤9:=hcn
 refine t9 ?_
 refine qav [(0,_),(1,_),(4,_),(10,_),(13,_),(14,_),(16,_),(18,_)] [blk i14 _ _,blk i13 _ _,blk i10 _ _] (fun y:Nat×Int=>y.1≤qb4 lines∧(-1≤y.2∧y.2≤8)∧acU ks o inc nd (frL ks o (qb4 lines) (qb4 lines-y.1) y.1 y.2)=W) (fun y=>[(17,Is (.int .i64 y.2)),(29,Is (.int .i64 (y.1:Nat)))]) (fun y=>[]) (fun y=>qb4 lines-y.1) (0,-1) ⟨by exact Nat.zero_le _,⟨by omega,by omega⟩,hE⟩ qa9 qab ?_
 clear hE
 rintro ⟨k,s⟩ ⟨hk,hI,hE⟩
 dsimp only at hk hI hE ⊢
 refine t12 ?_
 refine cN ?_ ?_ <;> intro h48
 ·rw [Bool.and_eq_true] at h48
  obtain ⟨ha,hb⟩:=h48
  have hlt:k<qb4 lines:=by have:=of_decide_eq_true ha;omega
  clear ha
  have hkr:0≤kF o (qb4 lines) k∧kF o (qb4 lines) k≤8:=by
   unfold kF
   rw [Int.tmod_eq_emod_of_nonneg (by omega)]
   have h1:=Int.emod_nonneg (o+(k:Int)) (show ((qb4 lines:Nat):Int)≠0 by omega)
   have h2:=Int.emod_lt_of_pos (o+(k:Int)) (show 0<((qb4 lines:Nat):Int) by omega)
   omega
  rw [show qb4 lines-k=(qb4 lines-(k+1))+1 by omega,frL,ifT hb] at hE
  clear hb
  refine t15 ?_
  refine qb0 30 (Is (.int .i64 (kF o (qb4 lines) k))) rfl qgw ?_
  generalize kF o (qb4 lines) k=kf at hE hkr ⊢
  refine t3 ?_
  refine kRF call82 (qcb _) ?_
  refine kRF call32 (qby _ _) ?_
  refine t4 ?_
  intro i31
  refine t5 ?_
  generalize hq:qbk ks (qau kf)=q at hE ⊢
  replace hq:=Lib.hid hq
  refine t2 ?_
  refine kRF call83 (qgb _) ?_
  refine t4 ?_
  intro i33
  refine t5 ?_
  replace hE:=Lib.hid hE
  refine t2 ?_
  refine kRF call33 (qcc _) ?_
  refine t12 ?_
  replace hE:=hE.out
  refine cN ?_ ?_ <;> intro h53
  ·rw [ifT (show frB ks kf=true by unfold frB;rw [hq.out];exact h53)] at hE
   refine t11 ?_
   exact qaa (k+1,_) ⟨by omega,by exact ⟨by omega,by omega⟩,hE⟩ (by omega) qa9 qab
  rw [ifF (show frB ks kf=false by unfold frB;rw [hq.out];exact h53)] at hE
  refine t8 ?_
  exact qaa (k+1,_) ⟨by omega,by exact ⟨by omega,by omega⟩,hE⟩ (by omega) qa9 qab
 have hfin:frL ks o (qb4 lines) (qb4 lines-k) k s=s:=by
  by_cases hke:k=qb4 lines
  ·subst hke;rw [Nat.sub_self,frL]
  ·have e9:decide (s<0)=false:=by
    rw [decide_eq_true (show (k:Int)<((qb4 lines:Nat):Int) by omega),Bool.true_and] at h48
    exact h48
   rw [show qb4 lines-k=(qb4 lines-(k+1))+1 by omega,frL,ifF e9]
 rw [hfin] at hE
 unfold acU at hE
 clear hfin h48
 refine t11 ?_
 refine cN ?_ ?_ <;> intro h55
 ·replace hE:=qa4 hE h55
  refine t2 ?_
  refine kRF call79 (qel c.w.heap.size _) ?_
  refine t5 ?_
  subst hE
  exact qan (Bs:=[_]) results47 eRF () SubL.rfl' (List.nil_sublist _)
 rw [ifF h55] at hE
 unfold acW at hE
 have hs0:0≤s∧s≤8:=by have:=of_decide_eq_false h55;omega
 refine t8 ?_
 refine qap rfl (by exact qgf (k:=s.toNat) qmq (er rfl) (by omega) qct) ?_
 refine t16 ?_
 refine kRF call39 (qep nd.1 (ndA nd.2.1 s inc)) ?_
 refine t4 ?_
 intro i35
 refine t5 ?_
 generalize qck nd.1 (ndA nd.2.1 s inc)=wn at hE ⊢
 refine t3 ?_
 refine kRF call82 (qcb _) ?_
 refine kRF call32 (qby _ _) ?_
 refine t4 ?_
 intro i37
 refine t5 ?_
 generalize qbk ks (qau s)=q at hE ⊢
 refine t3 ?_
 refine qap rfl (qfg (er rfl) rfl rfl (qh4 _)) ?_
 refine t11 ?_
 refine qap rfl (qac (size:=9) (qs:=[(0,_),(1,_)]) rfl rfl rfl ⟨⟨rfl,_,(er rfl),qag⟩,⟨⟨rfl,_,(er rfl),qag⟩,trivial⟩⟩ rf rf) ?_
 refine qap rfl (by ((refine qaw call72 (qcf _ [wn.1,hdA q o] ?_) ⟨qaq,⟨qaq,trivial⟩⟩);all_goals (simp))) ?_
 refine t5 ?_
 subst hE
 exact qan (Bs:=[_]) results47 eRF () SubL.rfl' (List.nil_sublist _)
theorem mask64 (i:Nat):(BitVec.ofInt 64 65534).getLsbD i=(decide (i<32)&&(BitVec.ofInt 32 65534).getLsbD i):=by
 have h3:BitVec.ofInt 64 65534=(BitVec.ofInt 32 65534).setWidth 64:=by decide
 rw [h3,BitVec.getLsbD_setWidth]
 rcases Nat.lt_or_ge i 32 with h|h
 ·simp [h,show i<64 by omega]
 ·rw [BitVec.getLsbD_of_ge _ i h];simp
theorem qvp {p:Pg} (h:(qcv p).2=0):qp5 p.l=true∧UV p.d0≤6∧(p.d1 &&& ~~~BitVec.ofInt 64 65534=0#64)∧p.d2=0#64∧p.d3=0#64∧p.d4=0#64∧p.d5=0#64∧p.d6=0#64∧(qcv p).1=⟨UV p.d0-1,p.d1.setWidth 32⟩:=by
 unfold qcv at h ⊢
 split at h
 ·rename_i h1
  split at h
  ·exact absurd h (by decide)
  ·rename_i h2
   have h3:zbb p=false∧zB p=true:=by simpa using h2
   have h4:=h3.2
   have h5:=h3.1
   unfold zB at h4
   unfold zbb at h5
   simp only [Bool.and_eq_true,decide_eq_true_eq] at h4
   obtain ⟨a1,a2,a3,a4,a5⟩:=h4
   rw [Bool.or_eq_false_iff,decide_eq_false_iff_not] at h5
   rw [if_pos h1,if_neg h2]
   exact ⟨h1,by omega,uv0_iff.1 (by simpa using h5.2),a1,a2,a3,a4,a5,rfl⟩
 ·exact absurd h (by decide)
theorem za9 {p:Pg} (h:(qcv p).2=0):UV ((qcv p).1.used &&& ~~~BitVec.ofInt 32 65534)=0∧(qcv p).1.used.setWidth 64=p.d1:=by
 obtain ⟨_,_,h1,_,_,_,_,_,h2⟩:=qvp h
 rw [h2]
 dsimp only
 have hb:∀ i,i<64→(p.d1.getLsbD i && !(decide (i<32)&&(BitVec.ofInt 32 65534).getLsbD i))=false:=fun i hi=>by
  have:=congrArg (fun x:BitVec 64=>x.getLsbD i) h1
  simp only [BitVec.getLsbD_and,BitVec.getLsbD_not,hi,decide_true,Bool.true_and,mask64] at this
  simpa using this
 refine ⟨uv0_iff.2 ?_,?_⟩
 ·apply BitVec.eq_of_getLsbD_eq
  intro i hi
  have:=hb i (by omega)
  simp only [BitVec.getLsbD_and,BitVec.getLsbD_not,BitVec.getLsbD_setWidth,hi,decide_true,Bool.true_and] at this ⊢
  rw [this];simp
 ·apply BitVec.eq_of_getLsbD_eq
  intro i hi
  rw [BitVec.getLsbD_setWidth,BitVec.getLsbD_setWidth]
  rcases Nat.lt_or_ge i 32 with h|h
  ·simp [h,hi]
  ·have:=hb i hi
   simp only [show ¬ i<32 by omega,decide_false,Bool.false_and,Bool.not_false,Bool.and_true] at this
   rw [this];simp
theorem qvc {p:Pg} {o:Int} {u:BitVec 32} (h:(qcv p).2=0) (ho:-1≤o∧o<6) (hu:UV (u &&& ~~~BitVec.ofInt 32 65534)=0):qfn p ⟨o,u⟩=({ p with d0:=BitVec.ofInt 64 (o+1),d1:=u.setWidth 64 },0):=by
 obtain ⟨h1,_,_,a2,a3,a4,a5,a6,_⟩:=qvp h
 have hb:qrp p ⟨o,u⟩=false:=by
  unfold qrp
  dsimp only
  rw [h1,hu,decide_eq_false (show ¬ o < -1 by omega),decide_eq_false (show ¬ o≥6 by omega)];rfl
 unfold qfn qoe
 rw [if_neg (by rw [hb];simp)]
 rcases p with ⟨l,hh,d0,d1,d2,d3,d4,d5,d6⟩
 dsimp only at a2 a3 a4 a5 a6
 subst a2 a3 a4 a5 a6
 rfl
theorem qzv {p:Pg} (h:qo5 p.l=true):(qc1 p).2=0∨(qc1 p).2=14:=by
 cases h2:qu8 p with
 | true=>rw [qqx h h2];exact .inr rfl
 | false =>
  cases h3:okN p 4 with
  | false=>rw [qvn h h2 h3];exact .inr rfl
  | true=>rw [qqy h h2 h3];exact .inl rfl
theorem qri {ks:List Pg} {ls:List Int} (h:¬ ((qc2 ks ls).length:Int)>0) {x:Int} (hx:x∈ls):qhh ks x=true:=by
 cases hb:qhh ks x with
 | true=>rfl
 | false =>
  have:=List.length_pos_of_mem (mem_missR.2 ⟨hx,hb⟩)
  omega
theorem qno {ks:List Pg} {l:Int} (h:qhh ks l=true):(qbk ks l).l=l:=by
 unfold qhh at h
 obtain ⟨p,hp⟩:=Option.isSome_iff_exists.1 h
 unfold qbk
 rw [hp]
 unfold qg3 at hp
 have h1:=List.mem_of_getLast? hp
 exact of_decide_eq_true (List.mem_filter.1 h1).2
def lsG:List Pt→List Pt→Bool
 | _,[]=>true
 | pre,p :: r=>if (!qc5 p||decide (p∈pre))=true then false else lsG (pre++[p]) r
def lsP (l:List Pt):Bool:=if (decide ((l.length:Int)<1)||decide ((l.length:Int)>4))=true then false else lsG [] l
theorem qy3 (z:Pt):∀ l:List Pt,dupR z l=decide (z∈l)
 | []=>by simp [dupR]
 | p :: l=>by
  unfold dupR
  rw [qy3 z l]
  by_cases h:p=z
  ·subst h;rw [if_pos (decide_eq_true rfl)];simp
  ·rw [if_neg (by simpa using h)]
   exact decide_eq_decide.2 (by rw [List.mem_cons];exact ⟨.inr,fun e=>e.resolve_left fun e=>h e.symm⟩)
theorem lst_ls {all:List Pt}:∀ (r pre:List Pt),zaa all pre r=((decide ((all.length:Int)≥1)&&decide ((all.length:Int)≤4))&&lsG pre r)
 | [],pre=>by
  show (decide ((all.length:Int)≥1)&&decide ((all.length:Int)≤4))=_
  unfold lsG;rw [Bool.and_true]
 | p :: r,pre=>by
  unfold zaa lsG
  rw [qy3]
  cases qc5 p with
  | false=>simp
  | true =>
   rw [if_neg (by decide)]
   by_cases h:p∈pre
   ·rw [if_pos (decide_eq_true h),if_pos (by rw [decide_eq_true h];rfl),Bool.and_false]
   ·rw [if_neg (by rw [decide_eq_false h];simp),if_neg (by rw [decide_eq_false h];simp)]
    exact lst_ls r _
theorem ls_eq (l:List Pt):lsP l=zaa l [] l:=by
 rw [lst_ls]
 unfold lsP
 by_cases h:(decide ((l.length:Int)<1)||decide ((l.length:Int)>4))=true
 ·rw [if_pos h]
  have:(decide ((l.length:Int)≥1)&&decide ((l.length:Int)≤4))=false:=by simp at h ⊢;omega
  rw [this];rfl
 ·rw [if_neg h]
  have:(decide ((l.length:Int)≥1)&&decide ((l.length:Int)≤4))=true:=by simp at h ⊢;omega
  rw [this];rfl
def qtn (op:Ep26):Bool:=
 if (!qk4 op.client)=true then false else
 if (op.kind==1||op.kind==2)=true then incB op.inc else
 if (op.kind==6)=true then incB op.inc&&qk4 op.for_ else
 if (op.kind==5)=true then (qk4 op.for_&&decide (op.lines≥104))&&decide (op.lines≤256) else
 if (op.kind==4)=true then lsP op.list else op.kind==3
theorem qpw (op:Ep26):qtn op=qi3 op:=by
 have hc:(!qk4 op.client)=(decide (op.client<0)||decide (op.client≥6)):=by
  unfold qk4
  by_cases h1:0≤op.client <;> by_cases h2:op.client<6 <;> simp [h1,h2] <;> omega
 have ho:qk4 op.for_=othB op.for_:=rfl
 unfold qtn qi3
 rw [hc,ls_eq,ho]
 by_cases h0:(decide (op.client<0)||decide (op.client≥6))=true
 ·rw [if_pos h0,if_pos h0]
 rw [if_neg h0,if_neg h0]
 by_cases h1:(op.kind==1||op.kind==2)=true
 ·rw [if_pos h1,if_pos h1]
 rw [if_neg h1,if_neg h1]
 by_cases h3:op.kind=3
 ·rw [h3];rfl
 by_cases h4:op.kind=4
 ·rw [h4];rfl
 by_cases h5:op.kind=5
 ·rw [h5];rfl
 by_cases h6:op.kind=6
 ·rw [h6]
  show (incB op.inc&&othB op.for_)=(othB op.for_&&incB op.inc)
  exact Bool.and_comm _ _
 ·rw [if_neg (by simpa using h6),if_neg (by simpa using h5),if_neg (by simpa using h4),if_neg (by simpa using h3),if_neg (by simpa using h4),if_neg (by simpa using h5),if_neg (by simpa using h6)]
  simpa using h3
def neL (ks:List Pg) (ls:List Int):List Int:=ls.filter fun l=>!qhh ks l
theorem qr7 {op:Ep26} (h:EA op):(qe3 op).Pairwise (· < ·):=by
 obtain ⟨h1,h2,h3,h4⟩:=h
 unfold qe3 qza
 split
 ·rename_i hk
  have hk3:op.kind=3:=by simpa using hk
  rw [if_pos (by rw [hk3];decide)]
  decide
 ·split
  ·rename_i hk
   have:=h3 (by simpa using hk)
   split
   ·simp;omega
   ·simp
  ·split
   ·simp;omega
   ·simp
theorem qv5 {ks:List Pg} {ls:List Int} (h:ls.Pairwise (· < ·)):neL ks ls=qc2 ks ls:=
 qr8 (h.filter _) (qts ks ls) fun x=>by
  rw [mem_missR]
  unfold neL
  rw [List.mem_filter]
  constructor
  ·rintro ⟨h1,h2⟩;exact ⟨h1,by simpa using h2⟩
  ·rintro ⟨h1,h2⟩;exact ⟨h1,by simpa using h2⟩
def qlk (op:Ep26) (ks:List Pg):List Int→Option (Int×Int)
 | []=>none
 | l :: r =>
  if qef (qbk ks l)=true then some (if (l==97||op.kind != 3)=true then -1 else l-98,3) else
  if (l==97)=true then (if ((rdE (qbk ks l)).2 != 0)=true then some (-1,(rdE (qbk ks l)).2) else qlk op ks r) else
  if ((qc1 (qbk ks l)).2 != 0)=true then some (-1,(qc1 (qbk ks l)).2) else qlk op ks r
theorem qxk {p:Pg}:∀ (n k:Nat),(qvq p n k).2=0∨(qvq p n k).2=14
 | 0,k=>by
  unfold qvq
  split
  ·exact .inr rfl
  ·exact .inl rfl
 | n+1,k=>by
  unfold qvq
  split
  ·exact .inr rfl
  ·exact qxk n (k+1)
theorem rdE_code {p:Pg} (h:p.l=97):(rdE p).2=0∨(rdE p).2=14:=by
 unfold rdE
 rw [if_neg (by rw [h];decide)]
 exact qxk _ _
theorem qrw {op:Ep26} {ks:List Pg} {b c:Int}:∀ (ls:List Int) (g:BitVec 32) (pg:List Pg) (nd:List Nd),(∀ l,l∈ls→qhh ks l=true∧97≤l∧l≤103)→qlk op ks ls=some (b,c) →
  (enB op ks ls g pg nd).need=[]∧(enB op ks ls g pg nd).writes=[]∧(enB op ks ls g pg nd).out=⟨c,0#32,b,[],[]⟩∧(enB op ks ls g pg nd).over=true∧c≠0
 | [],g,pg,nd,_,h=>by cases h
 | l :: r,g,pg,nd,hk,h=>by
  obtain ⟨hl,hr1,hr2⟩:=hk l (List.mem_cons_self ..)
  have hll:=qno hl
  unfold qlk at h
  unfold enB
  by_cases h1:qef (qbk ks l)=true
  ·rw [if_pos h1] at h ⊢
   have e:=Option.some.inj h
   obtain ⟨e1,e2⟩:=Prod.mk.inj e
   subst e2
   by_cases h2:(op.kind==3&&l != 97)=true
   ·rw [if_pos h2]
    rw [if_neg (by have h2':=h2;simp at h2';simp [h2'.1,h2'.2])] at e1
    subst e1
    exact ⟨rfl,rfl,rfl,rfl,by decide⟩
   ·rw [if_neg h2]
    rw [if_pos (by by_cases h97:l=97 <;> by_cases h3:op.kind=3 <;> simp [h97,h3] at h2 ⊢)] at e1
    subst e1
    exact ⟨rfl,rfl,rfl,rfl,by decide⟩
  ·rw [if_neg h1] at h ⊢
   by_cases h2:(l==97)=true
   ·rw [if_pos h2] at h ⊢
    have h97:l=97:=by simpa using h2
    by_cases h3:((rdE (qbk ks l)).2 != 0)=true
    ·rw [if_pos h3] at h ⊢
     obtain ⟨e1,e2⟩:=Prod.mk.inj (Option.some.inj h)
     have hc:(rdE (qbk ks l)).2=14:=by
      rcases rdE_code (p:=qbk ks l) (by rw [hll,h97]) with e|e
      ·rw [e] at h3;exact absurd h3 (by decide)
      ·exact e
     rw [hc] at e2
     subst e1 e2
     exact ⟨rfl,rfl,rfl,rfl,by decide⟩
    ·rw [if_neg h3] at h ⊢
     exact qrw r _ _ _ (fun x hx=>hk x (List.mem_cons_of_mem _ hx)) h
   ·rw [if_neg h2] at h ⊢
    have h97:l≠97:=by simpa using h2
    by_cases h3:((qc1 (qbk ks l)).2 != 0)=true
    ·rw [if_pos h3] at h ⊢
     obtain ⟨e1,e2⟩:=Prod.mk.inj (Option.some.inj h)
     have hc:(qc1 (qbk ks l)).2=14:=by
      rcases qzv (p:=qbk ks l) (by rw [hll];unfold qo5;simp;omega) with e|e
      ·rw [e] at h3;exact absurd h3 (by decide)
      ·exact e
     rw [hc] at e2
     subst e1 e2
     exact ⟨rfl,rfl,rfl,rfl,by decide⟩
    ·rw [if_neg h3] at h ⊢
     exact qrw r _ _ _ (fun x hx=>hk x (List.mem_cons_of_mem _ hx)) h
def epG (ks:List Pg):List Int→BitVec 32→BitVec 32
 | [],g=>g
 | l :: r,g=>if (l==97)=true then epG ks r (rdE (qbk ks l)).1 else epG ks r g
theorem zeb {op:Ep26} {ks:List Pg}:∀ (ls:List Int) (g:BitVec 32) (pg:List Pg) (nd:List Nd),qlk op ks ls=none →
  enB op ks ls g pg nd=enC op ks (epG ks ls g) (pg++(ls.filter fun l=>l != 97).map (qbk ks)) (nd++(ls.filter fun l=>l != 97).map fun l=>(qc1 (qbk ks l)).1)
 | [],g,pg,nd,_=>by simp [enB,epG]
 | l :: r,g,pg,nd,h=>by
  unfold qlk at h
  unfold enB epG
  by_cases h1:qef (qbk ks l)=true
  ·rw [if_pos h1] at h;cases h
  rw [if_neg h1] at h ⊢
  by_cases h2:(l==97)=true
  ·rw [if_pos h2] at h
   rw [if_pos h2,if_pos h2]
   have h97:l=97:=by simpa using h2
   by_cases h3:((rdE (qbk ks l)).2 != 0)=true
   ·rw [if_pos h3] at h;cases h
   ·rw [if_neg h3] at h ⊢
    rw [zeb r _ _ _ h,List.filter_cons,if_neg (by rw [h97];decide)]
  ·rw [if_neg h2] at h
   rw [if_neg h2,if_neg h2]
   have h97:l≠97:=by simpa using h2
   by_cases h3:((qc1 (qbk ks l)).2 != 0)=true
   ·rw [if_pos h3] at h;cases h
   ·rw [if_neg h3] at h ⊢
    rw [zeb r _ _ _ h,List.filter_cons,if_pos (by simpa using h97)]
    simp

theorem hdr_line {s:Int} (h:0≤s∧s≤8):qp5 (qau s)=true:=by
 unfold qp5 qau
 rw [if_pos h]
 exact decide_eq_true ⟨by omega,by omega,by omega⟩
theorem qzw {p:Pg} (h:qp5 p.l=true):(qcv p).2=0∨(qcv p).2=14:=by
 unfold qcv
 rw [if_pos h]
 split
 ·exact .inr rfl
 ·exact .inl rfl
theorem head_bad {ks:List Pg} {s:Int} (hb:qhh ks (qau s)=true) (hs:0≤s∧s≤8) {α:Type} {f:Int→α} {z:α} (h:((qd5 ks s).2.2.2 != 0)=true):(if qef (qbk ks (qau s))=true then f 3 else if ((qcv (qbk ks (qau s))).2 != 0)=true then f 14 else z)=f (qd5 ks s).2.2.2:=by
 revert h
 unfold qd5
 rw [if_pos hb]
 by_cases h1:qef (qbk ks (qau s))=true
 ·rw [if_pos h1,if_pos h1]
  intro _;rfl
 ·rw [if_neg h1,if_neg h1]
  dsimp only
  intro h
  rw [if_pos h]
  rcases qzw (p:=qbk ks (qau s)) (by rw [qno hb];exact hdr_line hs) with h2|h2
  ·rw [h2] at h;exact absurd h (by decide)
  ·rw [h2]
theorem zdr {ks:List Pg} {s:Int} (hb:qhh ks (qau s)=true) (h:((qd5 ks s).2.2.2 != 0)=false):qef (qbk ks (qau s))=false∧(qcv (qbk ks (qau s))).2=0∧qd5 ks s=(qbk ks (qau s),(qcv (qbk ks (qau s))).1,true,0):=by
 revert h
 unfold qd5
 rw [if_pos hb]
 by_cases h1:qef (qbk ks (qau s))=true
 ·rw [if_pos h1]
  intro h;exact absurd h (by decide)
 ·rw [if_neg h1]
  dsimp only
  intro h
  have h2:(qcv (qbk ks (qau s))).2=0:=by simpa using h
  exact ⟨by simpa using h1,h2,by rw [h2]⟩
theorem zem (u:BitVec 32) (i:Nat):qp9 u i=decide (UV u / 2 ^ i % 2=1):=by
 unfold qp9
 rw [qm7 32 1 (u>>>i) _ rfl,qzf]
 rfl
theorem qoo (u:BitVec 32) (i:Nat):qp9 u i=u.getLsbD i:=by
 rw [zem,BitVec.getLsbD,Nat.testBit_eq_decide_div_mod_eq]
 unfold UV
 have e:((u.toNat:Int) / 2 ^ i % 2=1)↔(u.toNat / 2 ^ i % 2=1):=by
  rw [show ((u.toNat:Int) / 2 ^ i % 2)=((u.toNat / 2 ^ i % 2:Nat):Int) by push_cast;rfl]
  omega
 simp only [e]
theorem zc1 (j i:Nat) (hj:j<32):(BitVec.ofInt 32 1<<<j).getLsbD i=decide (i=j):=by
 rw [show BitVec.ofInt 32 1=1#32 from rfl,BitVec.getLsbD_shiftLeft]
 by_cases h:i=j
 ·subst h;simp [hj]
 ·simp only [h,decide_false]
  by_cases h1:i<j
  ·simp [h1]
  ·have:i-j≠0:=by omega
   rw [BitVec.getLsbD_one]
   simp [this]
theorem qui (u:BitVec 32) (j i:Nat) (hj:j<32) (hi:i<32):qp9 (u &&& ~~~(BitVec.ofInt 32 1<<<j)) i=(qp9 u i && !decide (i=j)):=by
 rw [qoo,qoo,BitVec.getLsbD_and,BitVec.getLsbD_not,zc1 j i hj]
 simp [hi]
def qw4 (u:BitVec 32):Prop:=∀ i,qp9 u i=true→1≤i∧i≤15
theorem qpj (u:BitVec 32):qw4 u↔UV (u &&& ~~~BitVec.ofInt 32 65534)=0:=by
 rw [uv0_iff]
 constructor
 ·intro h
  apply BitVec.eq_of_getLsbD_eq
  intro i hi
  rw [BitVec.getLsbD_and,BitVec.getLsbD_not]
  simp only [hi,decide_true,Bool.true_and]
  cases hb:u.getLsbD i with
  | false=>simp
  | true =>
   have h1:=h i (by rw [qoo];exact hb)
   have h2:(BitVec.ofInt 32 65534).getLsbD i=true:=by
    have:∀ k:Fin 16,1≤k.val→(BitVec.ofInt 32 65534).getLsbD k.val=true:=by decide +kernel
    exact this ⟨i,by omega⟩ h1.1
   rw [h2];simp
 ·intro h i hb
  rw [qoo] at hb
  have hi:i<32:=BitVec.lt_of_getLsbD hb
  have h1:=congrArg (fun x:BitVec 32=>x.getLsbD i) h
  simp only [BitVec.getLsbD_and,BitVec.getLsbD_not,hi,decide_true,Bool.true_and,hb] at h1
  have h2:(BitVec.ofInt 32 65534).getLsbD i=true:=by simpa using h1
  have h3:∀ k:Fin 32,(BitVec.ofInt 32 65534).getLsbD k.val=true→1≤k.val∧k.val≤15:=by decide +kernel
  exact h3 ⟨i,hi⟩ h2
theorem bit0_eq (u:BitVec 32) (k:Nat):bit0 u k = !qp9 u k:=by
 unfold bit0
 rw [zem,qm7 32 1 (u>>>k) _ rfl,qzf]
 have:UV u / 2 ^ k % 2=0∨UV u / 2 ^ k % 2=1:=by omega
 rcases this with h|h
 ·show (UV u / 2 ^ k % 2==0)=_
  rw [h];rfl
 ·show (UV u / 2 ^ k % 2==0)=_
  rw [h];rfl
theorem gen_le (x:BitVec 64):qlt x≤16777215:=by rw [qyu];omega
theorem qnp (a b:List Pg) (l:Int):qg3 (a++b) l=(qg3 b l).or (qg3 a l):=by
 unfold qg3
 rw [List.filter_append,List.getLast?_append]
theorem qyk (p:Pg) (l:Int):qg3 [p] l=if p.l=l then some p else none:=by
 unfold qg3
 by_cases h:p.l=l
 ·rw [if_pos h,List.filter_cons,if_pos (by simpa using h)];rfl
 ·rw [if_neg h,List.filter_cons,if_neg (by simpa using h)];rfl
theorem qhg (p:Pg) (xs:List Pg) (l:Int):qg3 (p :: xs) l=(qg3 xs l).or (if p.l=l then some p else none):=by
 rw [show p :: xs=[p]++xs from rfl,qnp,qyk]
theorem qrl {xs:List Pg} {l:Int} (h:∀ x,x∈xs→x.l≠l):qg3 xs l=none:=by
 unfold qg3
 rw [List.filter_eq_nil_iff.2 fun x hx=>by simpa using h x hx]
 rfl
theorem qyl {p:Pg} (l:Int):∀ {xs:List Pg},Asc xs→qg3 (qhl xs p) l=if p.l=l then some p else qg3 xs l
 | [],_=>by rw [show qhl [] p=[p] from rfl,qyk];split <;> rfl
 | q :: xs,h=>by
  obtain ⟨h1,h2⟩:=List.pairwise_cons.1 h
  unfold qhl
  split
  ·rename_i hq
   rw [qhg,qyl l h2,qhg]
   by_cases hp:p.l=l
   ·rw [if_pos hp,if_pos hp];rfl
   ·rw [if_neg hp,if_neg hp]
  ·rename_i hq
   split
   ·rename_i he
    rw [qhg,qhg]
    by_cases hp:p.l=l
    ·rw [if_pos hp,if_pos hp,qrl fun x hx=>by have:=h1 x hx;omega];rfl
    ·rw [if_neg hp,if_neg hp,if_neg (by omega)]
   ·rename_i he
    rw [qhg]
    by_cases hp:p.l=l
    ·rw [if_pos hp,if_pos hp,qrl fun x hx=>by
      rcases List.mem_cons.1 hx with e|e
      ·subst e;omega
      ·have:=h1 x e;omega]
     rfl
    ·rw [if_neg hp,if_neg hp];cases qg3 (q :: xs) l <;> rfl
theorem qtv (l:Int):∀ (xs acc:List Pg),Asc acc→qg3 (xs.foldl qhl acc) l=qg3 (acc++xs) l
 | [],acc,_=>by rw [List.append_nil];rfl
 | x :: xs,acc,h=>by
  rw [List.foldl_cons,qtv l xs _ (qix h),qnp,qnp,qhg,qyl l h]
  cases qg3 xs l with
  | some y=>rfl
  | none=>by_cases hp:x.l=l <;> simp [hp]
theorem zac (a b:List Pg) (l:Int):qg3 (qb7 a b) l=(qg3 b l).or (qg3 a l):=by
 unfold qb7
 rw [qtv l _ [] List.Pairwise.nil,List.nil_append,qnp]
theorem zdk {x:Pg}:∀ {w:List Pg},(∀ y,y∈w→y.l<x.l)→qhl w x=w++[x]
 | [],_=>rfl
 | y :: w,h=>by
  unfold qhl
  rw [if_pos (h y (List.mem_cons_self ..)),zdk fun z hz=>h z (List.mem_cons_of_mem _ hz)]
  rfl
theorem qy0:∀ (xs acc:List Pg),Asc (acc++xs)→xs.foldl qhl acc=acc++xs
 | [],acc,_=>by rw [List.append_nil];rfl
 | x :: xs,acc,h=>by
  have e:qhl acc x=acc++[x]:=zdk fun y hy=>(List.pairwise_append.1 h).2.2 y hy x (List.mem_cons_self ..)
  rw [List.foldl_cons,e,qy0 xs _ (by rw [List.append_assoc];exact h),List.append_assoc]
  rfl
theorem qhf {s:Int} (h:0≤s∧s≤8):qau s=104+16*s:=by unfold qau;rw [if_pos h]
theorem one64 (j i:Nat) (hj:j<64):(BitVec.ofInt 64 1<<<j).getLsbD i=decide (i=j):=by
 rw [show BitVec.ofInt 64 1=1#64 from rfl,BitVec.getLsbD_shiftLeft]
 by_cases h:i=j
 ·subst h;simp [hj]
 ·simp only [h,decide_false]
  by_cases h1:i<j
  ·simp [h1]
  ·have:i-j≠0:=by omega
   rw [BitVec.getLsbD_one]
   simp [this]
def zap (h:Hd) (i:Nat):Hd:=⟨h.owner,h.used &&& ~~~(BitVec.ofInt 32 1<<<i)⟩
abbrev FrS:=List Pg×List (Int×Hd)
def hS (ks:List Pg) (st:FrS) (s:Int):Hd:=(qfy st.2 s).getD (qd5 ks s).2.1
def wrE (ks:List Pg) (e:Int×Hd):Pg:=(qfn (qd5 ks e.1).1 e.2).1
def qs1 (ks:List Pg) (lines:Int) (st:FrS) (p:Pt):FrS:=(st.1++[(qu6 (qbk ks p.line)).1],qhm st.2 (qdh lines p.line).1 (zap (hS ks st (qdh lines p.line).1) (qdh lines p.line).2.1.toNat))
def errF (ks:List Pg) (lines:Int) (p:Pt):Option Int:=
 if qef (qbk ks p.line)=true then some 3 else
 if (qhx (qbk ks p.line).d0==0||qlt (qbk ks p.line).d0 != p.gen)=true then some 11 else
 if ((qd5 ks (qdh lines p.line).1).2.2.2 != 0)=true then some (qd5 ks (qdh lines p.line).1).2.2.2 else
 if (UV ((qd5 ks (qdh lines p.line).1).2.1.used>>>(qdh lines p.line).2.1.toNat&&&BitVec.ofInt 32 1)==0)=true then some 14 else none
def stF (ks:List Pg) (lines:Int):List Pt→FrS→Except Int FrS
 | [],st=>.ok st
 | p :: r,st=>match errF ks lines p with
  | some e=>.error e
  | none=>stF ks lines r (qs1 ks lines st p)
theorem qnn {α:Type} {k:Int} {v:α}:∀ {l:List (Int×α)},qfy l k=some v→(k,v)∈l
 | [],h=>by simp [qfy] at h
 | (j,x) :: l,h=>by
  unfold qfy at h
  split at h
  ·rename_i e
   have e2:=Option.some.inj h
   subst e e2
   exact List.mem_cons_self ..
  ·exact List.mem_cons_of_mem _ (qnn h)
theorem qyg {α:Type} {k:Int}:∀ {l:List (Int×α)},qfy l k=none→k ∉ l.map Prod.fst
 | [],_=>by simp
 | (j,x) :: l,h=>by
  unfold qfy at h
  split at h
  ·cases h
  ·rename_i e
   simp only [List.map_cons,List.mem_cons,not_or]
   exact ⟨fun e2=>e e2.symm,qyg h⟩
theorem qoa {lines x:Int} (h:(qdh lines x).2.2=true):(0≤(qdh lines x).1∧(qdh lines x).1<(qb4 lines:Nat))∧(1≤(qdh lines x).2.1∧(qdh lines x).2.1≤15)∧x=qau (qdh lines x).1+(qdh lines x).2.1:=by
 have hn:=qe2 lines
 have hc:qgi lines=((qb4 lines:Nat):Int):=by unfold qb4;have:=qjp lines;omega
 unfold qdh at h ⊢
 split
 ·rename_i h1
  dsimp only
  rw [qhf (by omega)]
  omega
 ·rename_i h1
  rw [if_neg h1] at h;cases h
theorem lat_asc {w:List Pg} (h:Asc w) {y:Pg} (hy:y∈w):qg3 w y.l=some y:=by
 induction w with
 | nil=>cases hy
 | cons x w ih =>
  obtain ⟨h1,h2⟩:=List.pairwise_cons.1 h
  rw [qhg]
  rcases List.mem_cons.1 hy with e|e
  ·subst e
   rw [qrl fun z hz=>by have:=h1 z hz;omega,if_pos rfl];rfl
  ·rw [ih h2 e];rfl
theorem and_w (u:BitVec 32) {j:Nat} (hj:j<32):(u &&& ~~~(BitVec.ofInt 32 1<<<j)).setWidth 64=u.setWidth 64 &&& ~~~(BitVec.ofInt 64 1<<<j):=by
 apply BitVec.eq_of_getLsbD_eq
 intro i hi
 rw [BitVec.getLsbD_setWidth,BitVec.getLsbD_and,BitVec.getLsbD_and,BitVec.getLsbD_not,BitVec.getLsbD_not,BitVec.getLsbD_setWidth,zc1 j i hj,one64 j i (by omega)]
 rcases Nat.lt_or_ge i 32 with h|h
 ·simp [hi,h]
 ·rw [BitVec.getLsbD_of_ge u i h];simp
theorem qzm {u:BitVec 32} {j:Nat} (h:qw4 u) (hj:j<32):qw4 (u &&& ~~~(BitVec.ofInt 32 1<<<j)):=fun i hi=>by
 have hi32:i<32:=by
  rw [qoo] at hi
  exact BitVec.lt_of_getLsbD hi
 rw [qui u j i hj hi32] at hi
 exact h i (Bool.and_eq_true_iff.1 hi).1
theorem qy8 (u:BitVec 32) (k:Nat):(UV (u>>>k&&&BitVec.ofInt 32 1)==0) = !qp9 u k:=bit0_eq u k
structure HdOk (ks:List Pg) (lines:Int) (done:List Pt) (s:Int) (h:Hd):Prop where
 rng:0≤s∧s<(qb4 lines:Nat)
 kn:qhh ks (qau s)=true
 lk:qef (qbk ks (qau s))=false
 rd:(qcv (qbk ks (qau s))).2=0
 got:qd5 ks s=(qbk ks (qau s),(qcv (qbk ks (qau s))).1,true,0)
 own:h.owner=(qcv (qbk ks (qau s))).1.owner
 use:qw4 h.used
 bit:∀ i:Nat,i<32→(∀ p,p∈done→p.line≠qau s+(i:Int))→qp9 h.used i=qp9 (qcv (qbk ks (qau s))).1.used i
theorem HdOk.first {ks:List Pg} {lines s:Int} (done:List Pt) (hs:0≤s∧s<(qb4 lines:Nat)) (hb:qhh ks (qau s)=true) (h:((qd5 ks s).2.2.2 != 0)=false):HdOk ks lines done s (qd5 ks s).2.1:=by
 obtain ⟨g1,g2,g3⟩:=zdr hb h
 exact ⟨hs,hb,g1,g2,g3,by rw [g3],by rw [g3];exact (qpj _).2 (za9 g2).1,fun i _ _=>by rw [g3]⟩
theorem HdOk.wr {ks:List Pg} {lines s:Int} {done:List Pt} {h:Hd} (H:HdOk ks lines done s h):wrE ks (s,h)={ qbk ks (qau s) with d1:=h.used.setWidth 64 }∧qcv (wrE ks (s,h))=(h,0)∧(wrE ks (s,h)).l=qau s∧qef (wrE ks (s,h))=false:=by
 obtain ⟨_,h2,_,_,_,_,_,_,h3⟩:=qvp H.rd
 have hn:=qbq (qbk ks (qau s)).d0
 have ho:h.owner=UV (qbk ks (qau s)).d0-1:=by rw [H.own,h3]
 have hw:=qvc H.rd (o:=h.owner) (u:=h.used) (by omega) ((qpj _).1 H.use)
 have hp:(qd5 ks s).1=qbk ks (qau s):=by rw [H.got]
 have e:qfn (qd5 ks s).1 h=({ qbk ks (qau s) with d0:=BitVec.ofInt 64 (h.owner+1),d1:=h.used.setWidth 64 },0):=by rw [hp];exact hw
 have hb:=qwn (p:=(qd5 ks s).1) (h:=h) (by rw [e])
 refine ⟨?_,hb.1,?_,?_⟩
 ·show (qfn (qd5 ks s).1 h).1=_
  rw [e,ho]
  dsimp only
  rw [show UV (qbk ks (qau s)).d0-1+1=UV (qbk ks (qau s)).d0 by omega,show BitVec.ofInt 64 (UV (qbk ks (qau s)).d0)=(qbk ks (qau s)).d0 by unfold UV;simp]
 ·show (qfn (qd5 ks s).1 h).1.l=_
  rw [hb.2.1,hp,qno H.kn]
 ·show qef (qfn (qd5 ks s).1 h).1=false
  unfold qef
  rw [hb.2.2,hp]
  exact H.lk
theorem HdOk.clr {ks:List Pg} {lines s:Int} {done:List Pt} {h:Hd} (H:HdOk ks lines done s h) {i:Nat} (hi:i≤15) {p:Pt} (hp:p.line=qau s+(i:Int)):HdOk ks lines (done++[p]) s (zap h i)∧wrE ks (s,zap h i)=qwk (wrE ks (s,h)) (i:Int):=by
 have H2:HdOk ks lines (done++[p]) s (zap h i):=⟨H.rng,H.kn,H.lk,H.rd,H.got,H.own,qzm H.use (by omega),fun j hj hno=>by
  have hji:j≠i:=fun e=>hno p (List.mem_append.2 (.inr (List.mem_singleton.2 rfl))) (by rw [hp,e])
  show qp9 (h.used &&& ~~~(BitVec.ofInt 32 1<<<i)) j=_
  rw [qui h.used i j (by omega) hj,decide_eq_false hji,Bool.not_false,Bool.and_true]
  exact H.bit j hj fun q hq=>hno q (List.mem_append.2 (.inl hq))⟩
 refine ⟨H2,?_⟩
 rw [H2.wr.1,H.wr.1]
 unfold qwk
 rw [Int.toNat_natCast,show (zap h i).used=h.used &&& ~~~(BitVec.ofInt 32 1<<<i) from rfl,and_w h.used (by omega)]
theorem HdOk.more {ks:List Pg} {lines s:Int} {done:List Pt} {h:Hd} (H:HdOk ks lines done s h) (p:Pt):HdOk ks lines (done++[p]) s h:=
 ⟨H.rng,H.kn,H.lk,H.rd,H.got,H.own,H.use,fun i hi hno=>H.bit i hi fun q hq=>hno q (List.mem_append.2 (.inl hq))⟩
structure FInv (ks:List Pg) (lines:Int) (done:List Pt) (st:FrS) (w:List Pg):Prop where
 asc:Asc w
 mem:∀ y,y∈w↔y∈st.1∨∃ e,e∈st.2∧y=wrE ks e
 nod:(st.2.map Prod.fst).Nodup
 pgl:st.1.map Pg.l=done.map Pt.line
 dat:∀ p,p∈done→(qdh lines p.line).2.2=true
 hd:∀ e,e∈st.2→HdOk ks lines done e.1 e.2
theorem qjo {lines x s:Int} (h:(qdh lines x).2.2=true) (hs:0≤s∧s≤8):x≠qau s:=by
 have hn:=qe2 lines
 obtain ⟨h1,h2,h3⟩:=qoa h
 rw [qhf hs]
 rw [qhf (by omega)] at h3
 omega
theorem FInv.look {ks:List Pg} {lines:Int} {done:List Pt} {st:FrS} {w:List Pg} (H:FInv ks lines done st w) {s:Int} (hs:0≤s∧s<(qb4 lines:Nat)):qbk (qb7 ks w) (qau s)=match qfy st.2 s with
  | some h=>wrE ks (s,h)
  | none=>qbk ks (qau s):=by
 have hn:=qe2 lines
 unfold qbk
 rw [zac]
 cases hg:qfy st.2 s with
 | some h =>
  have hm:=qnn hg
  have hw:=(H.hd _ hm).wr
  have h1:qg3 w (qau s)=some (wrE ks (s,h)):=by
   have:=lat_asc H.asc ((H.mem _).2 (.inr ⟨_,hm,rfl⟩))
   rwa [hw.2.2.1] at this
  rw [h1];rfl
 | none =>
  have hk:=qyg hg
  rw [qrl fun y hy e=>by
   rcases (H.mem y).1 hy with h1|⟨e1,h1,h2⟩
   ·have h3:y.l∈done.map Pt.line:=by rw [← H.pgl];exact List.mem_map_of_mem h1
    obtain ⟨p,hp,h4⟩:=List.mem_map.1 h3
    exact qjo (H.dat p hp) (s:=s) (by omega) (by rw [h4,e])
   ·subst h2
    have h3:=(H.hd e1 h1)
    have h4:=h3.wr.2.2.1
    have h5:=h3.rng
    rw [show (e1.1,e1.2)=e1 from rfl,e,qhf (by omega),qhf (by omega)] at h4
    exact hk (List.mem_map.2 ⟨e1,h1,by omega⟩)]
  rfl
theorem FInv.step {ks:List Pg} {lines:Int} {done:List Pt} {st:FrS} {w:List Pg} {p:Pt} (H:FInv ks lines done st w) (hl:(qdh lines p.line).2.2=true) (hkn:qhh ks p.line=true) (hkh:qhh ks (qau (qdh lines p.line).1)=true) (hnew:p.line ∉ done.map Pt.line)
  (hg:((qd5 ks (qdh lines p.line).1).2.2.2 != 0)=false) (hlk:qef (qbk ks p.line)=false) (hkd:qhx (qbk ks p.line).d0≠0) :
  qef (qbk (qb7 ks w) (qau (qdh lines p.line).1))=false∧(qcv (qbk (qb7 ks w) (qau (qdh lines p.line).1))).2=0 ∧
  qp9 (qcv (qbk (qb7 ks w) (qau (qdh lines p.line).1))).1.used (qdh lines p.line).2.1.toNat=qp9 (qd5 ks (qdh lines p.line).1).2.1.used (qdh lines p.line).2.1.toNat ∧
  FInv ks lines (done++[p]) (qs1 ks lines st p) (qb7 w [(qvm (qbk ks p.line)).1,qwk (qbk (qb7 ks w) (qau (qdh lines p.line).1)) (qdh lines p.line).2.1]):=by
 have hn:=qe2 lines
 obtain ⟨h1,h2,h3⟩:=qoa hl
 have h0:=HdOk.first done h1 hkh hg
 have hlook:=H.look h1
 have hbit:∀ q,q∈done→q.line≠qau (qdh lines p.line).1+(((qdh lines p.line).2.1.toNat:Nat):Int):=fun q hq e=>hnew (List.mem_map.2 ⟨q,hq,by omega⟩)
 unfold qs1
 generalize hlo:qdh lines p.line=lo at *
 obtain ⟨s,i,b⟩:=lo
 dsimp only at *
 obtain ⟨n,rfl⟩:∃ n:Nat,i=(n:Int):=⟨i.toNat,by omega⟩
 rw [Int.toNat_natCast] at *
 have hX:∃ h,hS ks st s=h∧HdOk ks lines done s h∧qef (qbk (qb7 ks w) (qau s))=false∧qcv (qbk (qb7 ks w) (qau s))=(h,0)∧qwk (qbk (qb7 ks w) (qau s)) (n:Int)=wrE ks (s,zap h n):=by
  cases hm:qfy st.2 s with
  | some h =>
   rw [hm] at hlook
   dsimp only at hlook
   have hh:=H.hd _ (qnn hm)
   refine ⟨h,by unfold hS;rw [hm];rfl,hh,by rw [hlook];exact hh.wr.2.2.2,by rw [hlook];exact hh.wr.2.1,by rw [hlook];exact ((hh.clr (i:=n) (p:=p) (by omega) h3).2).symm⟩
  | none =>
   rw [hm] at hlook
   dsimp only at hlook
   have e:hS ks st s=(qd5 ks s).2.1:=by unfold hS;rw [hm];rfl
   have e2:(qd5 ks s).2.1=(qcv (qbk ks (qau s))).1:=by rw [h0.got]
   have e3:wrE ks (s,(qd5 ks s).2.1)=qbk ks (qau s):=by
    rw [h0.wr.1,e2]
    have:=(za9 h0.rd).2
    rw [this]
   refine ⟨_,e,h0,by rw [hlook];exact h0.lk,by rw [hlook,e2,← h0.rd],by rw [hlook,← e3];exact ((h0.clr (i:=n) (p:=p) (by omega) h3).2).symm⟩
 obtain ⟨h,e1,hh,e2,e3,e4⟩:=hX
 obtain ⟨hc1,hc2⟩:=hh.clr (i:=n) (p:=p) (by omega) h3
 refine ⟨e2,by rw [e3],?_,?_⟩
 ·rw [e3]
  dsimp only
  rw [hh.bit n (by omega) hbit,show (qd5 ks s).2.1=(qcv (qbk ks (qau s))).1 by rw [h0.got]]
 ·rw [e1,e4]
  have hpl:=qno hkn
  have hheap:qmk (qbk ks p.line).l=true:=by rw [hpl];unfold qmk;rw [qhf (by omega)] at h3;simp;omega
  have hr1:qvm (qbk ks p.line)=(tagP (qbk ks p.line) ⟨0,qlt (qbk ks p.line).d0,0#32⟩,0):=by
   unfold qvm
   rw [if_neg (by rw [hheap];simp),if_neg (by rw [hlk];simp),if_neg (by simpa using hkd)]
  have hr2:qu6 (qbk ks p.line)=qvm (qbk ks p.line):=by
   rw [hr1]
   unfold qu6
   rw [if_pos hheap,if_neg (by rw [hlk];simp),if_neg hkd]
  rw [hr2]
  have hal:(qvm (qbk ks p.line)).1.l=p.line:=by rw [hr1];exact hpl
  generalize (qvm (qbk ks p.line)).1=a at hal
  have hbl:=hc1.wr.2.2.1
  have hmw:qb7 w [a,wrE ks (s,zap h n)]=qhl (qhl w a) (wrE ks (s,zap h n)):=by
   unfold qb7
   rw [List.foldl_append,qy0 w [] H.asc]
   rfl
  have hane:a.l≠(wrE ks (s,zap h n)).l:=by rw [hal,hbl];exact qjo (lines:=lines) (by rw [hlo];exact hl) (by omega)
  have hwl:∀ y,y∈w→y.l≠a.l:=fun y hy e=>by
   rcases (H.mem y).1 hy with g1|⟨x,g1,g2⟩
   ·have g3:y.l∈done.map Pt.line:=by rw [← H.pgl];exact List.mem_map_of_mem g1
    rw [e,hal] at g3;exact hnew g3
   ·subst g2
    have g4:=H.hd x g1
    have g5:=g4.rng
    rw [g4.wr.2.2.1,hal] at e
    exact qjo (lines:=lines) (s:=x.1) (by rw [hlo];exact hl) (by omega) e.symm
  refine ⟨by rw [hmw];exact qix (qix H.asc),fun y=>?_,qrg H.nod,?_,?_,?_⟩
  ·rw [hmw,qlq (qix H.asc),qlq H.asc,H.mem]
   dsimp only
   constructor
   ·rintro (e|⟨e|⟨e,g1⟩,g2⟩)
    ·exact .inr ⟨_,(qf9 H.nod).2 (.inl rfl),e⟩
    ·exact .inl (List.mem_append.2 (.inr (by rw [e];exact List.mem_singleton.2 rfl)))
    ·rcases e with e|⟨x,hx,rfl⟩
     ·exact .inl (List.mem_append.2 (.inl e))
     ·refine .inr ⟨x,(qf9 H.nod).2 (.inr ⟨hx,fun e=>g2 ?_⟩),rfl⟩
      rw [(H.hd x hx).wr.2.2.1,hbl,e]
   ·rintro (e|⟨x,hx,rfl⟩)
    ·rcases List.mem_append.1 e with e|e
     ·have hyw:y∈w:=(H.mem y).2 (.inl e)
      refine .inr ⟨.inr ⟨.inl e,hwl y hyw⟩,fun g=>?_⟩
      have g3:y.l∈done.map Pt.line:=by rw [← H.pgl];exact List.mem_map_of_mem e
      obtain ⟨q,hq,g4⟩:=List.mem_map.1 g3
      exact qjo (H.dat q hq) (s:=s) (by omega) (by rw [g4,g,hbl])
     ·have:=List.mem_singleton.1 e
      subst this
      exact .inr ⟨.inl rfl,hane⟩
    ·rcases (qf9 H.nod).1 hx with e|⟨e,g⟩
     ·rw [e];exact .inl rfl
     ·have hyw:wrE ks x∈w:=(H.mem _).2 (.inr ⟨x,e,rfl⟩)
      refine .inr ⟨.inr ⟨.inr ⟨x,e,rfl⟩,hwl _ hyw⟩,fun g2=>g ?_⟩
      have g3:=H.hd x e
      have g4:=g3.rng
      rw [g3.wr.2.2.1,hbl,qhf (by omega),qhf (by omega)] at g2
      omega
  ·rw [List.map_append,List.map_append,H.pgl]
   show done.map Pt.line++[a.l]=_
   rw [hal];rfl
  ·intro q hq
   rcases List.mem_append.1 hq with e|e
   ·exact H.dat q e
   ·rw [List.mem_singleton.1 e,hlo];exact hl
  ·intro x hx
   rcases (qf9 H.nod).1 hx with e|⟨e,g⟩
   ·rw [e];exact hc1
   ·exact (H.hd x e).more p
theorem FInv.start (ks:List Pg) (lines:Int):FInv ks lines [] ([],[]) []:=⟨List.Pairwise.nil,fun y=>by simp,by simp,rfl,fun p hp=>(by cases hp),fun e he=>(by cases he)⟩
theorem zb2 {ks:List Pg} {lines:Int}:∀ (r done:List Pt) (st:FrS) (w:List Pg),FInv ks lines done st w→(∀ p,p∈r→(qdh lines p.line).2.2=true∧qhh ks p.line=true∧qhh ks (qau (qdh lines p.line).1)=true)→((done++r).map Pt.line).Nodup →
  match stF ks lines r st with
  | .error e=>qxg ks lines r w=qfu e
  | .ok st'=>∃ w',qxg ks lines r w={ S19.nil with over:=true,writes:=w' }∧FInv ks lines (done++r) st' w'
 | [],done,st,w,H,_,_=>⟨w,rfl,by rw [List.append_nil];exact H⟩
 | p :: r,done,st,w,H,hr,hnd=>by
  obtain ⟨hl,hkn,hkh⟩:=hr p (List.mem_cons_self ..)
  have hn:=qe2 lines
  obtain ⟨h1,h2,h3⟩:=qoa hl
  have hnew:p.line ∉ done.map Pt.line:=fun hm=>by
   rw [List.map_append] at hnd
   exact (List.nodup_append.1 hnd).2.2 _ hm _ (List.mem_cons_self ..) rfl
  have hst:=fun a b c=>H.step hl hkn hkh hnew a b c
  have hlook:=H.look h1
  unfold stF qxg errF
  by_cases c1:qef (qbk ks p.line)=true
  ·rw [if_pos c1,if_pos c1]
  rw [if_neg c1,if_neg c1]
  by_cases c2:(qhx (qbk ks p.line).d0==0||qlt (qbk ks p.line).d0 != p.gen)=true
  ·rw [if_pos c2,if_pos c2]
  rw [if_neg c2,if_neg c2]
  have hkd:qhx (qbk ks p.line).d0≠0:=fun e=>c2 (by rw [e];rfl)
  cases c3:((qd5 ks (qdh lines p.line).1).2.2.2 != 0) with
  | true =>
   rw [if_pos rfl]
   dsimp only
   have hnone:qfy st.2 (qdh lines p.line).1=none:=by
    cases hm:qfy st.2 (qdh lines p.line).1 with
    | none=>rfl
    | some h =>
     have g:=(H.hd _ (qnn hm)).got
     rw [g] at c3
     exact absurd (show ((0:Int) != 0)=true from c3) (by decide)
   rw [hnone] at hlook
   dsimp only at hlook
   rw [hlook]
   have hbad:=head_bad hkh (show 0≤(qdh lines p.line).1∧(qdh lines p.line).1≤8 by omega) (f:=qfu) (z:=qxg ks lines r (qb7 w [(qvm (qbk ks p.line)).1,qwk (qbk ks (qau (qdh lines p.line).1)) (qdh lines p.line).2.1])) c3
   rw [← hbad]
   by_cases c4:qef (qbk ks (qau (qdh lines p.line).1))=true
   ·rw [if_pos c4,if_pos c4]
   rw [if_neg c4,if_neg c4]
   have c5:((qcv (qbk ks (qau (qdh lines p.line).1))).2 != 0)=true:=by
    revert c3
    unfold qd5
    rw [if_pos hkh,if_neg c4]
    exact id
   rw [if_pos c5,if_pos (by rw [c5];rfl)]
  | false =>
   obtain ⟨g1,g2,g3,g4⟩:=hst c3 (by simpa using c1) hkd
   rw [if_neg (show ¬ false=true by simp),if_neg (show ¬ qef (qbk (qb7 ks w) (qau (qdh lines p.line).1))=true by rw [g1];simp),qy8,qy8,g3,g2]
   cases c4:qp9 (qd5 ks (qdh lines p.line).1).2.1.used (qdh lines p.line).2.1.toNat with
   | false=>rw [if_pos (show (!false)=true from rfl),if_pos (show ((0:Int) != 0 || !false)=true from rfl)]
   | true =>
    rw [if_neg (show ¬ (!true)=true by decide),if_neg (show ¬ ((0:Int) != 0 || !true)=true by decide)]
    dsimp only
    have ih:=zb2 r (done++[p]) _ _ g4 (fun q hq=>hr q (List.mem_cons_of_mem _ hq)) (by rw [List.append_assoc];exact hnd)
    rw [List.append_assoc] at ih
    exact ih
theorem FInv.fin {ks:List Pg} {lines:Int} {done:List Pt} {st:FrS} {w ys:List Pg} (H:FInv ks lines done st w) (hnd:(done.map Pt.line).Nodup) (hp:ys.Perm (st.1++st.2.map (wrE ks))) (hs:Srt Pg.l 0 ys.length ys):ys=w:=by
 have hn:=qe2 lines
 have h3:(ys.map Pg.l).Nodup:=by
  refine ((hp.map Pg.l).nodup_iff).2 ?_
  rw [List.map_append,H.pgl]
  refine List.nodup_append.2 ⟨hnd,?_,fun a ha b hb e=>?_⟩
  ·rw [List.map_map]
   have h4:=H.nod
   rw [List.Nodup,List.pairwise_map] at h4 ⊢
   refine (List.Pairwise.and_mem.1 h4).imp fun {x y} hxy=>?_
   obtain ⟨hx,hy,hne⟩:=hxy
   have q1:=H.hd x hx
   have q2:=H.hd y hy
   have q3:=q1.rng
   have q4:=q2.rng
   show (wrE ks x).l≠(wrE ks y).l
   rw [q1.wr.2.2.1,q2.wr.2.2.1,qhf (by omega),qhf (by omega)]
   omega
  ·rw [List.map_map] at hb
   obtain ⟨x,hx,rfl⟩:=List.mem_map.1 hb
   obtain ⟨p,hp',rfl⟩:=List.mem_map.1 ha
   have q1:=H.hd x hx
   have q3:=q1.rng
   exact qjo (H.dat p hp') (s:=x.1) (by omega) (by rw [e];exact q1.wr.2.2.1)
 refine qwp (zbs hs h3) H.asc fun x=>?_
 rw [hp.mem_iff,H.mem,List.mem_append,List.mem_map]
 constructor
 ·rintro (h|⟨e,h1,h2⟩)
  ·exact .inl h
  ·exact .inr ⟨e,h1,h2.symm⟩
 ·rintro (h|⟨e,h1,h2⟩)
  ·exact .inl h
  ·exact .inr ⟨e,h1,h2.symm⟩
abbrev P4:=List Int×List Pg×EO26×Bool
def prj4 (e:ES26):P4:=(e.need,e.writes,e.out,e.over)
def outZ (c:Int):EO26:=⟨c,0#32,0,[],[]⟩
def blkZ (o:EO26):EO26:={ o with blocker:=-1 }
def rtF (p:Pg) (g:BitVec 32) (n:Nd):Nat→Nat→Nd→List Pt→List Pg×EO26
 | 0,_,m,_=>([(qck p m).1],⟨0,g,0,[],[97]⟩)
 | r+1,k,m,l=>if (decide (qfr n k=Re.nil)&&decide ((l.length:Int)>0))=true then rtF p g n r (k+1) (qha m k ⟨l.headD Pt.nil,g⟩) l.tail else rtF p g n r (k+1) m l
def rtA (L:List Pt) (p:Pg) (g:BitVec 32) (n:Nd):Nat→Nat→Nat→List Pg×EO26
 | 0,_,fr=>if decide ((fr:Int)<(L.length:Int))=true then ([],outZ 12) else rtF p g n 4 0 n L
 | r+1,k,fr=>if decide (qfr n k=Re.nil)=true then rtA L p g n r (k+1) (fr+1) else if decide ((qfr n k).to∈L)=true then ([],outZ 17) else rtA L p g n r (k+1) fr
def qv4 (n:Nd):Nat→Nat→Nat
 | 0,_=>0
 | r+1,k=>(if qfr n k=Re.nil then 1 else 0)+qv4 n r (k+1)
def anyR (L:List Pt) (n:Nd):Nat→Nat→Bool
 | 0,_=>false
 | r+1,k=>(!decide (qfr n k=Re.nil)&&decide ((qfr n k).to∈L))||anyR L n r (k+1)
theorem qxd (L:List Pt) (p:Pg) (g:BitVec 32) (n:Nd):∀ (r k fr:Nat),rtA L p g n r k fr=if anyR L n r k=true then ([],outZ 17) else if fr+qv4 n r k<L.length then ([],outZ 12) else rtF p g n 4 0 n L
 | 0,k,fr=>by
  unfold rtA anyR qv4
  rw [if_neg (by decide:¬ false=true)]
  by_cases h:fr<L.length
  ·rw [if_pos (decide_eq_true (by omega)),if_pos (by omega)]
  ·rw [if_neg (by simp;omega),if_neg (by omega)]
 | r+1,k,fr=>by
  unfold rtA anyR qv4
  by_cases h:qfr n k=Re.nil
  ·rw [if_pos (decide_eq_true h),qxd L p g n r,if_pos h,decide_eq_true h]
   rw [show fr+1+qv4 n r (k+1)=fr+(1+qv4 n r (k+1)) by omega]
   rfl
  ·rw [if_neg (by rw [decide_eq_false h];simp),if_neg h,decide_eq_false h]
   by_cases h2:(qfr n k).to∈L
   ·rw [if_pos (decide_eq_true h2),decide_eq_true h2,if_pos rf]
   ·rw [if_neg (by rw [decide_eq_false h2];simp),decide_eq_false h2,qxd L p g n r,Nat.zero_add]
    rfl
theorem qxj {m:Nd} {k j:Nat} {x:Re} (hk:k<4) (hj:j<4) (h:j≠k):qfr (qha m k x) j=qfr m j:=by
 rcases e4 hk with rfl|rfl|rfl|rfl <;> rcases e4 hj with rfl|rfl|rfl|rfl <;> first|rfl|exact absurd rfl h
theorem zbz {p:Pg} {g:BitVec 32} {n:Nd}:∀ (r k:Nat) (m:Nd),rtF p g n r k m []=([(qck p m).1],⟨0,g,0,[],[97]⟩)
 | 0,_,_=>rfl
 | r+1,k,m=>by
  unfold rtF
  rw [if_neg (by simp)]
  exact zbz r _ _
theorem qvi {L:List Pt} {p:Pg} {o:EO26} {n:Nd}:∀ (r k:Nat) (m:Nd) (at_:Nat),k+r=4→at_≤L.length→(∀ j,k≤j→j<4→qfr m j=qfr n j) →
  if at_+qv4 n r k<L.length then qpp L p o r k m at_=qu9 12 (-1) else ∃ m',rtF p o.epoch n r k m (L.drop at_)=([(qck p m').1],⟨0,o.epoch,0,[],[97]⟩)∧qpp L p o r k m at_=⟨[],[(qck p m').1],{ o with check:=[97] },true,false⟩
 | 0,k,m,at_,hk,ha,hm=>by
  unfold qv4 qpp retZ rtF
  by_cases h:at_<L.length
  ·rw [if_pos (by omega),if_pos (decide_eq_true (by omega))]
  ·rw [if_neg (by omega),if_neg (by simp;omega)]
   exact ⟨m,rfl,rfl⟩
 | r+1,k,m,at_,hk,ha,hm=>by
  by_cases hat:at_<L.length
  ·have hdr:L.drop at_=L[at_] :: L.drop (at_+1):=List.drop_eq_getElem_cons hat
   have hgd:L.getD at_ Pt.nil=L[at_]:=by rw [List.getD_eq_getElem?_getD,List.getElem?_eq_getElem hat];rfl
   by_cases hz:qfr n k=Re.nil
   ·have ih:=qvi (L:=L) (p:=p) (o:=o) (n:=n) r (k+1) (qha m k ⟨L[at_],o.epoch⟩) (at_+1) (by omega) (by omega) (fun j h1 h2=>by rw [qxj (by omega) h2 (by omega)];exact hm j (by omega) h2)
    have e1:qpp L p o (r+1) k m at_=qpp L p o r (k+1) (qha m k ⟨L[at_],o.epoch⟩) (at_+1):=by
     conv=>lhs;unfold qpp
     rw [if_pos (decide_eq_true (by omega)),if_pos (decide_eq_true (by rw [hm k (Nat.le_refl _) (by omega)];exact hz)),hgd]
    have e2:rtF p o.epoch n (r+1) k m (L.drop at_)=rtF p o.epoch n r (k+1) (qha m k ⟨L[at_],o.epoch⟩) (L.drop (at_+1)):=by
     conv=>lhs;unfold rtF
     rw [hdr,if_pos (by rw [decide_eq_true hz,Bool.true_and];exact decide_eq_true (by simp;omega))]
     rfl
    have e3:at_+qv4 n (r+1) k=at_+1+qv4 n r (k+1):=by
     conv=>lhs;unfold qv4
     rw [if_pos hz];omega
    rw [e1,e2,e3]
    exact ih
   ·have ih:=qvi (L:=L) (p:=p) (o:=o) (n:=n) r (k+1) m at_ (by omega) ha (fun j h1 h2=>hm j (by omega) h2)
    have e1:qpp L p o (r+1) k m at_=qpp L p o r (k+1) m at_:=by
     conv=>lhs;unfold qpp
     rw [if_pos (decide_eq_true (by omega)),if_neg (by rw [hm k (Nat.le_refl _) (by omega),decide_eq_false hz];simp)]
    have e2:rtF p o.epoch n (r+1) k m (L.drop at_)=rtF p o.epoch n r (k+1) m (L.drop at_):=by
     conv=>lhs;unfold rtF
     rw [if_neg (by rw [decide_eq_false hz];simp)]
    have e3:at_+qv4 n (r+1) k=at_+qv4 n r (k+1):=by
     conv=>lhs;unfold qv4
     rw [if_neg hz];omega
    rw [e1,e2,e3]
    exact ih
  ·rw [if_neg (by omega),List.drop_of_length_le (by omega),zbz]
   refine ⟨m,rfl,?_⟩
   unfold qpp
   rw [if_neg (by simp;omega)]
   unfold retZ
   rw [if_neg (by simp;omega)]
theorem qrq {n:Nd} {z:Pt}:∀ (r k:Nat),zds n z r k=true↔∃ j,k≤j∧j<k+r∧(qfr n j).to=z
 | 0,k=>by
  unfold zds
  exact ⟨fun h=>by simp at h,fun ⟨j,h1,h2,_⟩=>absurd h1 (by omega)⟩
 | r+1,k=>by
  unfold zds
  by_cases h:(qfr n k).to=z
  ·rw [if_pos (decide_eq_true h)]
   exact ⟨fun _=>⟨k,Nat.le_refl _,by omega,h⟩,fun _=>rfl⟩
  ·rw [if_neg (by rw [decide_eq_false h];simp),qrq r (k+1)]
   constructor
   ·rintro ⟨j,h1,h2,h3⟩;exact ⟨j,by omega,by omega,h3⟩
   ·rintro ⟨j,h1,h2,h3⟩
    exact ⟨j,by
     rcases Nat.eq_or_lt_of_le h1 with e|e
     ·subst e;exact absurd h3 h
     ·exact e,by omega,h3⟩
theorem qzc {L:List Pt} {n:Nd}:∀ (r k:Nat),anyR L n r k=true↔∃ j,k≤j∧j<k+r∧qfr n j≠Re.nil∧(qfr n j).to∈L
 | 0,k=>by
  unfold anyR
  exact ⟨fun h=>by simp at h,fun ⟨j,h1,h2,_⟩=>absurd h1 (by omega)⟩
 | r+1,k=>by
  unfold anyR
  rw [Bool.or_eq_true,qzc r (k+1),Bool.and_eq_true]
  constructor
  ·rintro (⟨h1,h2⟩|⟨j,h1,h2,h3⟩)
   ·exact ⟨k,Nat.le_refl _,by omega,by simpa using h1,of_decide_eq_true h2⟩
   ·exact ⟨j,by omega,by omega,h3⟩
  ·rintro ⟨j,h1,h2,h3,h4⟩
   rcases Nat.eq_or_lt_of_le h1 with e|e
   ·subst e;exact .inl ⟨by simpa using h3,decide_eq_true h4⟩
   ·exact .inr ⟨j,by omega,by omega,h3,h4⟩
theorem zb1 {L:List Pt} {n:Nd} {p:Pg} {o:EO26}:∀ l:List Pt,qqv L n p o l=if l.any (fun z=>zds n z 4 0)=true then qu9 17 (-1) else qpp L p o 4 0 n 0
 | []=>rfl
 | z :: r=>by
  unfold qqv
  rw [List.any_cons]
  cases h:zds n z 4 0 with
  | true=>rw [if_pos rfl];rfl
  | false=>rw [if_neg (by simp),zb1 r,Bool.false_or]
theorem ret_same {op:Ep26} {n:Nd} {p:Pg} {g:BitVec 32} (hz:Pt.nil ∉ op.list) :
  prj4 (retR op n p ⟨0,g,-1,[],[]⟩)=([],(rtA op.list p g n 4 0 0).1,blkZ (rtA op.list p g n 4 0 0).2,true):=by
 unfold retR
 rw [zb1,qxd]
 have hb:(op.list.any fun z=>zds n z 4 0)=anyR op.list n 4 0:=by
  rw [Bool.eq_iff_iff,List.any_eq_true,qzc]
  constructor
  ·rintro ⟨z,h1,h2⟩
   obtain ⟨j,h3,h4,h5⟩:=(qrq 4 0).1 h2
   exact ⟨j,h3,h4,fun e=>hz (by rw [e] at h5;rw [show Re.nil.to=Pt.nil from rfl] at h5;rw [h5];exact h1),by rw [h5];exact h1⟩
  ·rintro ⟨j,h1,h2,h3,h4⟩
   exact ⟨_,h4,(qrq 4 0).2 ⟨j,h1,h2,rfl⟩⟩
 rw [hb]
 by_cases h:anyR op.list n 4 0=true
 ·rw [if_pos h,if_pos h];rfl
 ·rw [if_neg h,if_neg h]
  have hf:=qvi (L:=op.list) (p:=p) (o:=⟨0,g,-1,[],[]⟩) (n:=n) 4 0 n 0 rfl (Nat.zero_le _) (fun _ _ _=>rfl)
  by_cases h2:0+qv4 n 4 0<op.list.length
  ·rw [if_pos h2] at hf ⊢
   rw [hf];rfl
  ·rw [if_neg h2] at hf ⊢
   obtain ⟨m',e1,e2⟩:=hf
   rw [List.drop_zero] at e1
   rw [e1,e2]
   rfl
def adF (pg:Pg) (g:BitVec 32):List Pg×EO26:=if (UV g==4294967295)=true then ([],outZ 12) else ([(za6 pg (g+1#32)).1],⟨0,g+1#32,0,[],qu5 6⟩)
def adL (N:Int→Nd) (pg:Pg) (g:BitVec 32):List Int→List Pg×EO26
 | []=>adF pg g
 | c :: r=>if ((N c).pin&&UV (N c).ep != UV g)=true then ([],⟨3,0#32,c,[],[]⟩) else adL N pg g r
def qkj (n:Nat):List Int:=(List.range n).map fun i:Nat=>(i:Int)
def advB (o:EO26):EO26:=if (o.code==3)=true then o else blkZ o
theorem adv_go {N:Int→Nd} {ks:List Pg} {g:BitVec 32}:∀ (l:List Int) (k:Nat) (ck:List Int),(∀ j,j<l.length→l[j]?=some ((k+j:Nat):Int))→ck++l.map (fun c=>98+c)=qu5 6 →
  prj4 (advL g ks k (l.map N) ck)=([],(adL N (qbk ks 97) g l).1,advB (adL N (qbk ks 97) g l).2,true)
 | [],k,ck,hl,hc=>by
  rw [List.map_nil,List.append_nil] at hc
  subst hc
  show prj4 (advC g ks (qu5 6))=_
  unfold advC adL adF
  by_cases h:(UV g==4294967295)=true
  ·rw [if_pos h,if_pos h];rfl
  ·rw [if_neg h,if_neg h];rfl
 | c :: r,k,ck,hl,hc=>by
  have h0:=hl 0 (by simp)
  have hck:c=(k:Int):=by simpa using h0
  subst hck
  rw [List.map_cons]
  unfold advL adL
  by_cases h:((N (k:Int)).pin&&UV (N (k:Int)).ep != UV g)=true
  ·rw [if_pos h,if_pos h];rfl
  ·rw [if_neg h,if_neg h]
   refine adv_go r (k+1) _ (fun j hj=>?_) ?_
   ·have:=hl (j+1) (by simp;omega)
    rw [List.getElem?_cons_succ] at this
    rw [this];congr 1;omega
   ·rw [List.append_assoc];exact hc
theorem adv_same {N:Int→Nd} {ks:List Pg} {g:BitVec 32}:prj4 (advR g ks ((qkj 6).map N))=([],(adL N (qbk ks 97) g (qkj 6)).1,advB (adL N (qbk ks 97) g (qkj 6)).2,true):=
 adv_go (qkj 6) 0 [] (fun j hj=>by
  have hj6:j<6:=hj
  match j,hj6 with
  | 0,_|1,_|2,_|3,_|4,_|5,_=>rfl) rfl
def takC (g:BitVec 32) (n:Nd) (k:Nat) (fr:List Pt):Bool:=(!decide (qfr n k=Re.nil)&&qqs g (qfr n k).ep)&&decide ((fr.length:Int)<2)
def clL (g:BitVec 32) (n:Nd):Nat→Nat→Nd→List Pt→Nd×List Pt
 | 0,_,m,fr=>(m,fr)
 | r+1,k,m,fr=>if takC g n k fr=true then clL g n r (k+1) (qha m k Re.nil) (fr++[(qfr n k).to]) else clL g n r (k+1) m fr
def clY (p:Pg) (g:BitVec 32) (m:Nd) (fr:List Pt) (F:S19):P4:=
 if (!F.over)=true then (F.need,[],EO26.nil,false) else if (zao F != 0)=true then ([],[],outZ (zao F),true) else ([],qb7 F.writes [(qck p m).1],⟨0,g,0,fr,[97]⟩,true)
def clZ (lines:Int) (p:Pg) (g:BitVec 32) (ks:List Pg) (z:Nd×List Pt):P4:=
 if ((z.2.length:Int)==0)=true then ([],[],outZ 16,true) else clY p g z.1 z.2 (qmn ks lines z.2)
def bkf4 (z:P4):P4:=(z.1,z.2.1,(if z.2.2.2=true then blkZ z.2.2.1 else z.2.2.1),z.2.2.2)
theorem qy6 {g:BitVec 32} {n:Nd}:∀ (r k:Nat) (m:Nd) (fr:List Pt),2≤fr.length→clL g n r k m fr=(m,fr)
 | 0,_,_,_,_=>rfl
 | r+1,k,m,fr,h=>by
  unfold clL
  rw [if_neg (by unfold takC;rw [decide_eq_false (show ¬ (fr.length:Int)<2 by omega)];simp)]
  exact qy6 r _ _ _ h
theorem clZ_eq {lines:Int} {p:Pg} {g:BitVec 32} {ks:List Pg} {m:Nd} {fr:List Pt}:prj4 (colZ lines p ⟨0,g,-1,[],[]⟩ ks m fr)=bkf4 (clZ lines p g ks (m,fr)):=by
 unfold colZ clZ
 by_cases h:((fr.length:Int)==0)=true
 ·rw [if_pos h,if_pos h];rfl
 rw [if_neg h,if_neg h]
 unfold colY clY
 dsimp only
 by_cases h2:(!(qmn ks lines fr).over)=true
 ·rw [if_pos h2,if_pos h2];rfl
 rw [if_neg h2,if_neg h2]
 unfold colX
 by_cases h3:(zao (qmn ks lines fr) != 0)=true
 ·rw [if_pos h3,if_pos h3];rfl
 ·rw [if_neg h3,if_neg h3];rfl
theorem zed {lines:Int} {p:Pg} {g:BitVec 32} {ks:List Pg} {n:Nd}:∀ (r k:Nat) (m:Nd) (fr:List Pt),k+r=4→(∀ j,k≤j→j<4→qfr m j=qfr n j) →
  prj4 (qsr lines p ⟨0,g,-1,[],[]⟩ ks r k m fr)=bkf4 (clZ lines p g ks (clL g n r k m fr))
 | 0,k,m,fr,_,_=>by
  unfold qsr clL
  exact clZ_eq
 | r+1,k,m,fr,hk,hm=>by
  by_cases h:(fr.length:Int)<2
  ·unfold qsr clL takC
   rw [if_pos (decide_eq_true h),hm k (Nat.le_refl _) (by omega),decide_eq_true h,Bool.and_true]
   by_cases h2:(!decide (qfr n k=Re.nil)&&qqs g (qfr n k).ep)=true
   ·rw [if_pos h2,if_pos h2]
    exact zed r (k+1) _ _ (by omega) (fun j h1 h2=>by rw [qxj (by omega) h2 (by omega)];exact hm j (by omega) h2)
   ·rw [if_neg h2,if_neg h2]
    exact zed r (k+1) _ _ (by omega) (fun j h1 h2=>hm j (by omega) h2)
  ·rw [qy6 _ _ _ _ (by omega)]
   unfold qsr
   rw [if_neg (by simpa using h)]
   exact clZ_eq
theorem qwl {g:BitVec 32} {n:Nd}:∀ (r k:Nat) (m:Nd) (fr:List Pt),fr.length≤2→(clL g n r k m fr).2.length≤2
 | 0,_,_,_,h=>h
 | r+1,k,m,fr,h=>by
  unfold clL
  split
  ·rename_i h2
   unfold takC at h2
   have:=of_decide_eq_true (Bool.and_eq_true_iff.1 h2).2
   exact qwl r _ _ _ (by rw [List.length_append,List.length_singleton];omega)
  ·exact qwl r _ _ _ h
end Go.Proofs.YtghkkdjbaehboaaGreat
