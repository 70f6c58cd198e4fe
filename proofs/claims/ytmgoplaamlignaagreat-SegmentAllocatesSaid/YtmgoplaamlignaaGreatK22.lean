/- Texts laid together: walks of functions, what they compute, and plain laws of it. Own work. -/
import Derived.Shelf.Sort.Plain
import Derived.Shelf.Slices.CompactI
import Derived.Test.YtmgoplaamlignaaGreatK20
import Derived.Test.YtmgoplaamlignaaGreatK21
import Derived.Test.YtmgoplaamlignaaGreatK16
import Derived.Test.YtmgoplaamlignaaGreatK18
import Derived.Test.YtmgoplaamlignaaGreatK7
import Derived.Test.YtmgoplaamlignaaGreatK1
namespace Go.Proofs.YtmgoplaamlignaaGreat
open Go.RowKit Tryz
set_option linter.unusedVariables false
set_option linter.unusedSimpArgs false
set_option maxRecDepth 100000
set_option maxHeartbeats 4000000
def qmc (xs ls:List Int):List Int:=ls.foldl qd7 xs
def qdu (ks:List Pg) (ls:List Int):List Int:=qmc [] (qdh ks ls)
theorem zb8 (ls:List Int):∀ xs:List Int,(qmc xs ls).length≤xs.length+ls.length:=by
 induction ls with
 | nil=>intro xs;simp [qmc]
 | cons l ls ih =>
  intro xs
  have h1:=ih (qd7 xs l)
  have h2:=qg6 xs l
  simp only [qmc,List.foldl_cons,List.length_cons] at h1 ⊢
  omega
theorem qpu {ks:List Pg} {ls:List Int} {k:Nat} {l:Int} (h:ls[k]?=some l):qdu ks (ls.take (k+1))=if (!qe5 ks l)=true then qd7 (qdu ks (ls.take k)) l else qdu ks (ls.take k):=by
 unfold qdu qe5
 rw [qn5 h]
 cases g:qgh ks l with
 | none=>simp [qmc,List.foldl_append]
 | some q=>simp
theorem qi7 (ks:List Pg) (ls:List Int):(qdu ks ls).length≤ls.length:=by
 have h1:=zb8 (qdh ks ls) []
 have h2:(qdh ks ls).length≤ls.length:=List.length_filter_le _ _
 unfold qdu
 simp at h1
 omega
theorem qgy (ks:List Pg) (ls:List Int) (hn:ls.length≤1000000):FnP Tryz.prog 45 [qal tPg ks,qal tI64 ls] (qal tI64 (qdu ks ls)):=by
 refine FnP.enter func45 ntmps45 rfl rfl ?_
 intro c hX
 refine t17 ?_
 refine qaz [(0,_),(1,_),(4,_)] [] (fun k:Nat=>k≤(ls).length) (fun k=>[(5,qal tI64 (qdu ks (ls.take k))),(6,Is (.int .i64 (k:Nat)))]) (fun k=>[]) (fun k=>(ls).length-k) 0 (Nat.zero_le _) qbl qab ?_
 rintro k hk
 refine t9 ?_
 refine cN ?_ ?_ <;> intro h3
 ·have hlt:k<(ls).length:=by have:=of_decide_eq_true h3;omega
  clear h3
  obtain ⟨z,hz⟩:∃ q,(ls)[k]?=some q:=⟨_,List.getElem?_eq_getElem hlt⟩
  have e:=qpu (ks:=ks) hz
  have hl0:(qdu ks (ls.take k)).length≤1000000:=by have:=qi7 ks (ls.take k);have:=List.length_take_le k ls;omega
  refine t11 ?_
  refine kS call19 (qbu _ _) ?_
  refine t4 ?_
  intro i7
  refine t10 ?_
  refine cN ?_ ?_ <;> intro h6
  ·rw [ifT h6] at e
   refine t6 ?_
   refine qap rfl (by ((refine qac call78 (qim _ _ ?_) ⟨evS,⟨evS,trivial⟩⟩);all_goals (assumption))) ?_
   refine t9 ?_
   exact qaa (k+1) (by omega) (by omega) (by rw [e];exact qbl) qab
  rw [ifF h6] at e
  refine t8 ?_
  exact qaa (k+1) (by omega) (by omega) (by rw [e];exact qbl) qab
 have hke:k=(ls).length:=by have:=of_decide_eq_false h3;omega
 clear h3
 subst hke
 (try rw [List.take_length])
 refine t12 ?_
 refine qa4 results45 rfl () (SubL.eq ?_) (List.nil_sublist _)
 rfl
def hasV (l:List Int) (x:Int):Bool:=l.any fun y=>y==x
theorem Has_ok (l:List Int) (x:Int):FnP Tryz.prog 234 [qal tI64 l,Is (.int .i64 x)] (Is (.bool (hasV l x))):=by
 refine FnP.enter func234 ntmps234 rfl rfl ?_
 intro c hX
 refine qgn (t:=0) rfl (fun hlen=>?_)
 refine t12 ?_
 refine qaz [(0,_),(1,_),(4,_)] [] (fun k:Nat=>k≤(l).length∧(hasV (l.take k) x=false)) (fun k=>[(5,Is (.int .i64 (k:Nat)))]) (fun k=>[]) (fun k=>(l).length-k) 0 ⟨by exact Nat.zero_le _,rfl⟩ qbl qab ?_
 rintro k ⟨hk,hI⟩
 refine t9 ?_
 refine cN ?_ ?_ <;> intro h2
 ·have hlt:k<(l).length:=by have:=of_decide_eq_true h2;omega
  clear h2
  obtain ⟨z,hz⟩:∃ q,(l)[k]?=some q:=⟨_,List.getElem?_eq_getElem hlt⟩
  have e:hasV (l.take (k+1)) x=(hasV (l.take k) x||z==x):=by unfold hasV;rw [List.take_add_one,hz,List.any_append];simp
  refine t14 ?_
  refine cN ?_ ?_ <;> intro h4
  ·have e2:hasV l x=true:=by
    rw [← List.take_append_drop (k+1) l]
    unfold hasV at e ⊢
    rw [List.any_append,e,h4];simp
   rw [e2]
   refine t11 ?_
   refine qa4 results234 rfl () (SubL.eq ?_) (List.nil_sublist _)
   rfl
  have hr:hasV (l.take (k+1)) x=false:=by rw [e,hI,h4];rfl
  refine t8 ?_
  exact qaa (k+1) ⟨by omega,hr⟩ (by omega) qbl qab
 have hke:k=(l).length:=by have:=of_decide_eq_false h2;omega
 clear h2
 subst hke
 (try rw [List.take_length])
 (try rw [List.take_length] at hI)
 refine t11 ?_
 refine qa4 results234 rfl () (SubL.eq ?_) (List.nil_sublist _)
 rw [hI]
def qfs (ks:List Pg) (c:Int):Pg×Nd×Int:=
 if qeo (qb6 ks (98+c))=true then (qb6 ks (98+c),Nd.nil,3) else
 if ((qcu (qb6 ks (98+c))).2 != 0)=true then (qb6 ks (98+c),(qcu (qb6 ks (98+c))).1,14) else (qb6 ks (98+c),(qcu (qb6 ks (98+c))).1,0)
theorem ql8 (ks:List Pg) (o:Int) (h0:0≤o∧o<6):FnP Tryz.prog 46 [qal tPg ks,Is (.int .i64 o)] (qbv [qdw (qfs ks o).1,qsh (qfs ks o).2.1,Is (.int .i64 (qfs ks o).2.2)]):=by
 unfold qfs
 refine FnP.enter func46 ntmps46 rfl rfl ?_
 intro c hX
 refine t3 ?_
 intro i4
 refine s1 ?_
 intro i5
 refine t8 ?_
 refine kS call19 (qbu _ _) ?_
 refine t4 ?_
 intro i7
 refine t8 ?_
 refine kS call49 (qb5 _) ?_
 refine t2 ?_
 refine cN ?_ ?_ <;> intro h2
 ·rw [ifT h2]
  refine t11 ?_
  exact qaq (Bs:=[_,_,_]) results46 eT () SubL.rfl' (List.nil_sublist _)
 rw [ifF h2]
 refine t5 ?_
 refine kS call79 (qmw _) ?_
 refine t4 ?_
 intro i9
 refine t11 ?_
 refine cN ?_ ?_ <;> intro h5
 ·rw [ifT h5]
  refine s1 ?_
  refine qa0 rfl (by kernel_rfl) ?_
  refine qdf (it:=blk i5 _ _) (by repeat (first|exact Drop1.here _ _|apply Drop1.next)) ?_
  refine qdf (it:=blk i4 _ _) (by repeat (first|exact Drop1.here _ _|apply Drop1.next)) ?_
  refine qdj (its:=[_,_]) 5 (by kernel_rfl) ?_
  refine t2 ?_
  refine qc6 (s:=33) rfl rfl rfl (by kernel_rfl) (fun c'=>by exact qa9 (er rfl) (er rfl) qbn qae rf rf rf) ?_
  refine qc6 (s:=34) rfl rfl rfl (by kernel_rfl) (fun c'=>by exact qa9 (er rfl) (er rfl) qbn qae rf rf rf) ?_
  refine s1 ?_
  refine ⟨rfl,?_⟩
  intro _ _
  refine qat ?_
  refine t3 ?_
  exact qaq (Bs:=[_,_,_]) results46 eT () SubL.rfl' (List.nil_sublist _)
 rw [ifF h5]
 refine t3 ?_
 refine qa0 rfl (by kernel_rfl) ?_
 refine qdf (it:=blk i5 _ _) (by repeat (first|exact Drop1.here _ _|apply Drop1.next)) ?_
 refine qdf (it:=blk i4 _ _) (by repeat (first|exact Drop1.here _ _|apply Drop1.next)) ?_
 refine qdj (its:=[_,_]) 5 (by kernel_rfl) ?_
 refine t2 ?_
 refine qc6 (s:=33) rfl rfl rfl (by kernel_rfl) (fun c'=>by exact qa9 (er rfl) (er rfl) qbn qae rf rf rf) ?_
 refine qc6 (s:=34) rfl rfl rfl (by kernel_rfl) (fun c'=>by exact qa9 (er rfl) (er rfl) qbn qae rf rf rf) ?_
 refine s1 ?_
 refine ⟨rfl,?_⟩
 intro _ _
 refine qat ?_
 refine t2 ?_
 exact qaq (Bs:=[_,_,_]) results46 eT () SubL.rfl' (List.nil_sublist _)
def shRen:Go.Shelf.Ren:=⟨fun|125=>100|128=>120|129=>121|189=>72|215=>102|216=>117|257=>99|294=>111|295=>112|296=>113|297=>114|298=>115|299=>116|300=>118|301=>119|328=>147|329=>148|330=>149|331=>150|332=>151|343=>174|n=>n,fun|0=>0|3=>3|4=>4|5=>5|9=>9|28=>35|46=>72|51=>58|53=>24|131=>101|182=>206|183=>207|218=>245|222=>249|228=>303|229=>304|n=>n,fun n=>n⟩
theorem shLays:Lays.n189 Tryz.prog shRen:={
 mixed:=by kernel_rfl
 f125:=func100.trans (congrArg some (by kernel_rfl))
 f128:=func120.trans (congrArg some (by kernel_rfl))
 f129:=func121.trans (congrArg some (by kernel_rfl))
 f189:=func72.trans (congrArg some (by kernel_rfl))
 f215:=func102.trans (congrArg some (by kernel_rfl))
 f216:=func117.trans (congrArg some (by kernel_rfl))
 f257:=func99.trans (congrArg some (by kernel_rfl))
 f294:=func111.trans (congrArg some (by kernel_rfl))
 f295:=func112.trans (congrArg some (by kernel_rfl))
 f296:=func113.trans (congrArg some (by kernel_rfl))
 f297:=func114.trans (congrArg some (by kernel_rfl))
 f298:=func115.trans (congrArg some (by kernel_rfl))
 f299:=func116.trans (congrArg some (by kernel_rfl))
 f300:=func118.trans (congrArg some (by kernel_rfl))
 f301:=func119.trans (congrArg some (by kernel_rfl))
 f328:=func147.trans (congrArg some (by kernel_rfl))
 f329:=func148.trans (congrArg some (by kernel_rfl))
 f330:=func149.trans (congrArg some (by kernel_rfl))
 f331:=func150.trans (congrArg some (by kernel_rfl))
 f332:=func151.trans (congrArg some (by kernel_rfl))
 f343:=func174.trans (congrArg some (by kernel_rfl))
 t0:=Tryz.underlying0
 a0:=Tryz.isAgg0
 z0:=Tryz.sizeOf0
 v0:=Tryz.zeroValue0
 t3:=Tryz.underlying3
 a3:=Tryz.isAgg3
 z3:=Tryz.sizeOf3
 v3:=Tryz.zeroValue3
 t4:=Tryz.underlying4
 a4:=Tryz.isAgg4
 z4:=Tryz.sizeOf4
 v4:=Tryz.zeroValue4
 t5:=Tryz.underlying5
 a5:=Tryz.isAgg5
 z5:=Tryz.sizeOf5
 v5:=Tryz.zeroValue5
 t9:=Tryz.underlying9
 a9:=Tryz.isAgg9
 z9:=Tryz.sizeOf9
 v9:=Tryz.zeroValue9
 t28:=Tryz.underlying35
 a28:=Tryz.isAgg35
 z28:=Tryz.sizeOf35
 v28:=Tryz.zeroValue35
 t46:=Tryz.underlying72
 a46:=Tryz.isAgg72
 z46:=Tryz.sizeOf72
 v46:=Tryz.zeroValue72
 t51:=Tryz.underlying58
 a51:=Tryz.isAgg58
 z51:=Tryz.sizeOf58
 v51:=Tryz.zeroValue58
 t53:=Tryz.underlying24
 a53:=Tryz.isAgg24
 z53:=Tryz.sizeOf24
 v53:=Tryz.zeroValue24
 t131:=Tryz.underlying101
 a131:=Tryz.isAgg101
 z131:=Tryz.sizeOf101
 v131:=Tryz.zeroValue101
 t182:=Tryz.underlying206
 a182:=Tryz.isAgg206
 z182:=Tryz.sizeOf206
 v182:=Tryz.zeroValue206
 t183:=Tryz.underlying207
 a183:=Tryz.isAgg207
 z183:=Tryz.sizeOf207
 v183:=Tryz.zeroValue207
 t218:=Tryz.underlying245
 a218:=Tryz.isAgg245
 z218:=Tryz.sizeOf245
 v218:=Tryz.zeroValue245
 t222:=Tryz.underlying249
 a222:=Tryz.isAgg249
 z222:=Tryz.sizeOf249
 v222:=Tryz.zeroValue249
 t228:=Tryz.underlying303
 a228:=Tryz.isAgg303
 z228:=Tryz.sizeOf303
 v228:=Tryz.zeroValue303
 t229:=Tryz.underlying304
 a229:=Tryz.isAgg304
 z229:=Tryz.sizeOf304
 v229:=Tryz.zeroValue304
}
def qpk (xs:List Int):List Int:=xs.mergeSort fun x y=>decide (x≤y)
theorem qm9 (xs:List Int):(qpk xs).length=xs.length:=List.length_mergeSort ..
theorem qoa {φ:Fz}:∀ {xs:List Int} {flat:List Value},Alls φ (xs.flatMap tI64.cells) flat→flat=xs.map (Value.int .i64)
 | [],[],_=>rfl
 | x :: xs,v :: flat,h=>by
  have h':(Is (.int .i64 x)).ok φ v∧Alls φ (xs.flatMap tI64.cells) flat:=h
  rw [show v = .int .i64 x from h'.1,qoa h'.2];rfl
theorem qtv {φ:Fz}:∀ xs:List Int,Alls φ (xs.flatMap tI64.cells) (xs.map (Value.int .i64))
 | []=>trivial
 | x :: xs=>(⟨rfl,qtv xs⟩:(Is (.int .i64 x)).ok φ (.int .i64 x)∧Alls φ (xs.flatMap tI64.cells) (xs.map (Value.int .i64)))
theorem za8 (xs:List Int):ones (xs.map (Value.int .i64)):=fun u hu=>by
 obtain ⟨x,_,rfl⟩:=List.mem_map.1 hu
 rfl
theorem cells_at {w:World} {g:Nat} {cur:Array Value} {e:TypeId} (h:w.heap[g]?=some (.cells cur e (0,0))) (j:Nat) (u:Value) (hu:cur[j]?=some u):w.cell? ⟨g,j,none⟩=some u∧w.frozen? ⟨g,j,none⟩=false:=by
 simp [World.cell?,World.frozen?,h,hu]
theorem put_at (d:Array Int) (c:Array Value) (hd:d.size≤c.size):(Go.Sort.putCells (Value.int .i64) 0 d c).size=c.size∧(Go.Sort.putCells (Value.int .i64) 0 d c).toList.take d.size=d.toList.map (Value.int .i64):=by
 have hs:(Go.Sort.putCells (Value.int .i64) 0 d c).size=c.size:=by simp [Go.Sort.putCells]
 refine ⟨hs,?_⟩
 apply List.ext_getElem?
 intro k
 rcases Nat.lt_or_ge k d.size with hk|hk
 ·rw [List.getElem?_take_of_lt hk,Array.getElem?_toList,List.getElem?_map,Array.getElem?_toList]
  simp only [Go.Sort.putCells,Array.getElem?_mapIdx]
  rw [Array.getElem?_eq_getElem (by omega),Array.getElem?_eq_getElem hk]
  simp [hk]
 ·rw [List.getElem?_eq_none (by simp;omega),List.getElem?_eq_none (by simp;omega)]
theorem heap_put (w:World) (n g:Nat) (os:Array Obj) (d:Array Int) (cur:Array Value) (e:TypeId) (h:w.heap[g]?=some (.cells cur e (0,0))) :
  Kpt [g] w (Go.Sort.grow (Go.Sort.putRow (Value.int .i64) (Go.Sort.ahead w n) g 0 d) os)∧(Go.Sort.grow (Go.Sort.putRow (Value.int .i64) (Go.Sort.ahead w n) g 0 d) os).heap[g]?=some (.cells (Go.Sort.putCells (Value.int .i64) 0 d cur) e (0,0)):=by
 have hlt:g<w.heap.size:=by
  rcases Nat.lt_or_ge g w.heap.size with h1|h1
  ·exact h1
  ·rw [Array.getElem?_eq_none h1] at h;cases h
 have hsz:(w.heap.modify g (Go.Sort.onCells (Go.Sort.putCells (Value.int .i64) 0 d))).size=w.heap.size:=by simp
 refine ⟨⟨rfl,rfl,rfl,?_,fun k hk hx=>?_⟩,?_⟩
 ·show w.heap.size≤((w.heap.modify g (Go.Sort.onCells (Go.Sort.putCells (Value.int .i64) 0 d)))++os).size
  simp
 ·show ((w.heap.modify g (Go.Sort.onCells (Go.Sort.putCells (Value.int .i64) 0 d)))++os)[k]?=w.heap[k]?
  rw [Array.getElem?_append_left (by rw [hsz];exact hk),Array.getElem?_modify,if_neg (fun e=>hx (by simp [e]))]
 ·show ((w.heap.modify g (Go.Sort.onCells (Go.Sort.putCells (Value.int .i64) 0 d)))++os)[g]?=_
  rw [Array.getElem?_append_left (by rw [hsz];exact hlt),Array.getElem?_modify,if_pos rfl,h]
  rfl
theorem zco {φ:Fz} {w:World} {e:TypeId} {xs ys:List Int} {g cap n m:Nat} {cur:Array Value} (os:Array Obj) (hm:Mem φ [buf (.slice (some ⟨g,0,none⟩) xs.length cap) e tI64 xs] w)
  (h2:w.heap[g]?=some (.cells cur e (0,0))) (h3:xs.length≤cap) (h4:cap≤maxLen) (h5:cur.size=cap) (zs:List Int) (hz:zs.length=xs.length) (hy:ys=zs.take m) (hmz:m≤zs.length) :
  HP ⟨w,φ,qb4 [buf (.slice (some ⟨g,0,none⟩) xs.length cap) e tI64 xs],[]⟩ φ [buf (.slice (some ⟨g,0,none⟩) m cap) e tI64 ys] (Go.Sort.grow (Go.Sort.putRow (Value.int .i64) (Go.Sort.ahead w n) g 0 zs.toArray) os):=by
 obtain ⟨hk,hh⟩:=heap_put w n g os zs.toArray cur e h2
 have hit:=hm.items _ (List.mem_singleton.2 rfl)
 have hb:=hit.2 g rfl
 obtain ⟨p1,p2⟩:=put_at zs.toArray cur (by simp;omega)
 have hyl:ys.length=m:=by rw [hy,List.length_take];omega
 refine (HP.start hm).upd (it':=buf (.slice (some ⟨g,0,none⟩) m cap) e tI64 ys) (Repl.head _ _ _) hk ⟨⟨ys.map (Value.int .i64),?_,qtv ys,za8 ys,.inr ⟨g,cap,Go.Sort.putCells (Value.int .i64) 0 zs.toArray cur,by rw [hyl],?_,by omega,h4,?_,?_⟩⟩,fun b hbb=>?_⟩ (fun b hb'=>.inr hb')
 ·simp [tI64]
 ·exact hh
 ·rw [p1,h5];simp [tI64]
 ·rw [hyl]
  show (Go.Sort.putCells (Value.int .i64) 0 zs.toArray cur).toList.take (m*1)=_
  rw [Nat.mul_one,hy,List.map_take]
  have h9:(Go.Sort.putCells (Value.int .i64) 0 zs.toArray cur).toList.take m=((Go.Sort.putCells (Value.int .i64) 0 zs.toArray cur).toList.take zs.toArray.size).take m:=by
   rw [List.take_take,Nat.min_eq_left (by simpa using hmz)]
  rw [h9,p2]
 ·have e1:some g=some b:=hbb
  cases e1
  exact ⟨Nat.lt_of_lt_of_le hb.1 hk.size,hb.2⟩
theorem qtq {w:World} {e:TypeId} {xs:List Int} {g:Nat} {cur:Array Value} {flat:List Value} (h:w.heap[g]?=some (.cells cur e (0,0))) (hf:flat=xs.map (Value.int .i64)) (h6:cur.toList.take xs.length=flat):Go.Sort.Holds (Value.int .i64) w g 0 xs.toArray:=by
 intro j hj
 have hj':j<xs.length:=by simpa using hj
 have hc:cur[j]?=some (.int .i64 xs[j]):=by
  have h7:(cur.toList.take xs.length)[j]?=some (.int .i64 xs[j]):=by
   rw [h6,hf,List.getElem?_map,List.getElem?_eq_getElem hj'];rfl
  rw [List.getElem?_take_of_lt hj',Array.getElem?_toList] at h7
  exact h7
 have:=cells_at h j _ hc
 simpa [hj'] using this
theorem sortB_ok (xs:List Int) (i:Option Addr×Nat) (hn:xs.length≤1048576) :
  Fn Tryz.prog 72 [Is (slV xs.length i)] [buf (slV xs.length i) 3 tI64 xs] (fun _:Unit=>qbv []) (fun _=>[buf (slV xs.length i) 3 tI64 (qpk xs)]):=by
 intro φ w vs ha hm
 obtain rfl:vs=[slV xs.length i]:=by
  match vs,ha with
  | [v],h=>rw [show v=slV xs.length i from h.1]
 obtain ⟨⟨flat,f0,f1,f2,f3⟩,hb⟩:=hm.items _ (List.mem_singleton.2 rfl)
 rcases f3 with ⟨e1,e2⟩|⟨g,cap,cur,e1,e2,e3,e4,e5,e6⟩
 ·have hx:xs=[]:=List.eq_nil_of_length_eq_zero e2
  subst hx
  refine (qsd 0 i (by omega) φ w _ ha ⟨hm.base,by simp,List.Pairwise.nil⟩).mono ?_
  rintro e w' ⟨_,v,φ',rfl,h1,h2⟩
  refine ⟨(),v,φ',rfl,h1,?_⟩
  have e3:qpk []=[]:=by simp [qpk]
  rw [e3,e1]
  exact h2.buf0 _ _
 ·have hg:w.heap[g]?=some (.cells cur 3 (0,0)):=by
   have h9:(buf (slV xs.length i) 3 tI64 xs).at_=some g:=by show (slV xs.length i).ownBlock=_;rw [e1];rfl
   rw [h9] at e2;exact e2
  rw [e1] at hm ⊢
  have e5':cur.size=cap:=by simpa [tI64] using e5
  have e6':cur.toList.take xs.length=flat:=by simpa [tI64] using e6
  have hlt:=(hm.items _ (List.mem_singleton.2 rfl)).2 g rfl
  refine (Any.slices_Sort_int shLays g 0 cap xs w (qtq hg (qoa f1) e6') hlt.1 (by omega)).mono ?_
  rintro e w' ⟨rfl,n,os,rfl⟩
  refine ⟨(),.tuple #[],φ,rfl,⟨[],rfl,trivial⟩,?_⟩
  exact zco os hm hg e3 e4 e5' (qpk xs) (qm9 xs) (by rw [← qm9 xs,List.take_length]) (by rw [qm9];exact Nat.le_refl _)
def shRen2:Go.Shelf.Ren:=⟨fun|20=>73|n=>n,fun|0=>0|3=>3|4=>4|22=>35|n=>n,fun n=>n⟩
theorem shLays2:Lays2.n20 Tryz.prog shRen2:={
 mixed:=by kernel_rfl
 f20:=func73.trans (congrArg some (by kernel_rfl))
 t0:=Tryz.underlying0
 a0:=Tryz.isAgg0
 z0:=Tryz.sizeOf0
 v0:=Tryz.zeroValue0
 t3:=Tryz.underlying3
 a3:=Tryz.isAgg3
 z3:=Tryz.sizeOf3
 v3:=Tryz.zeroValue3
 t4:=Tryz.underlying4
 a4:=Tryz.isAgg4
 z4:=Tryz.sizeOf4
 v4:=Tryz.zeroValue4
 t22:=Tryz.underlying35
 a22:=Tryz.isAgg35
 z22:=Tryz.sizeOf35
 v22:=Tryz.zeroValue35
 i3:=by kernel_rfl
}
def qsk (xs:List Int):List Int:=Lib.compact xs
theorem grow0 (w:World):Go.Sort.grow w #[]=w:=by simp [Go.Sort.grow]
theorem qvw (xs:List Int) (i:Option Addr×Nat) (hn:xs.length≤1048576) (hc:(qsk xs).length≤xs.length) :
  Fn Tryz.prog 73 [Is (slV xs.length i)] [buf (slV xs.length i) 3 tI64 xs] (fun _:Unit=>Is (slV (qsk xs).length i)) (fun _=>[buf (slV (qsk xs).length i) 3 tI64 (qsk xs)]):=by
 intro φ w vs ha hm
 obtain rfl:vs=[slV xs.length i]:=by
  match vs,ha with
  | [v],h=>rw [show v=slV xs.length i from h.1]
 obtain ⟨⟨flat,f0,f1,f2,f3⟩,hb⟩:=hm.items _ (List.mem_singleton.2 rfl)
 rcases f3 with ⟨e1,e2⟩|⟨g,cap,cur,e1,e2,e3,e4,e5,e6⟩
 ·have hx:xs=[]:=List.eq_nil_of_length_eq_zero e2
  subst hx
  refine (qk1 0 i (by omega) φ w _ ha ⟨hm.base,by simp,List.Pairwise.nil⟩).mono ?_
  rintro e w' ⟨_,v,φ',rfl,h1,h2⟩
  have e3:qsk []=[]:=rfl
  refine ⟨(),v,φ',rfl,h1,?_⟩
  rw [e3,e1]
  exact h2.buf0 _ _
 ·have hg:w.heap[g]?=some (.cells cur 3 (0,0)):=by
   have h9:(buf (slV xs.length i) 3 tI64 xs).at_=some g:=by show (slV xs.length i).ownBlock=_;rw [e1];rfl
   rw [h9] at e2;exact e2
  have e7:∀ m,slV m i = .slice (some ⟨g,0,none⟩) m cap:=fun m=>by
   have h8:(Value.slice i.1 xs.length i.2) = .slice (some ⟨g,0,none⟩) xs.length cap:=e1
   have h9:i.1=some ⟨g,0,none⟩∧i.2=cap:=by injection h8 with a b d;exact ⟨a,d⟩
   show Value.slice i.1 m i.2=_
   rw [h9.1,h9.2]
  rw [e1] at hm ⊢
  rw [e7]
  have e5':cur.size=cap:=by simpa [tI64] using e5
  have e6':cur.toList.take xs.length=flat:=by simpa [tI64] using e6
  refine (Any.slices_Compact_int shLays2 g 0 cap xs w (qtq hg (qoa f1) e6') (by omega) e3).mono ?_
  rintro e w' ⟨rfl,n,rfl⟩
  refine ⟨(),_,φ,rfl,rfl,?_⟩
  rw [← grow0 (Go.Sort.putRow _ _ _ _ _)]
  exact zco #[] hm hg e3 e4 e5' (Lib.compact xs++List.replicate (xs.length-(Lib.compact xs).length) 0) (by unfold qsk at hc;simp;omega) (by unfold qsk;rw [List.take_left]) (by unfold qsk;simp)
@[reducible] def AscI (l:List Int):Prop:=l.Pairwise fun x y=>x<y
theorem mem_lines {x:Int}:∀ {l:List Int} {y:Int},y∈qd7 l x↔y=x∨y∈l
 | [],y=>by simp [qd7]
 | z :: l,y=>by
  unfold qd7
  split
  ·rw [List.mem_cons,mem_lines,List.mem_cons]
   constructor
   ·rintro (h|h|h)
    ·exact .inr (.inl h)
    ·exact .inl h
    ·exact .inr (.inr h)
   ·rintro (h|h|h)
    ·exact .inr (.inl h)
    ·exact .inl h
    ·exact .inr (.inr h)
  ·split
   ·rename_i he
    subst he
    rw [List.mem_cons]
    constructor
    ·exact .inr
    ·rintro (h|h)
     ·exact .inl h
     ·exact h
   ·rw [List.mem_cons]
theorem qt8 {x:Int}:∀ {l:List Int},AscI l→AscI (qd7 l x)
 | [],_=>List.pairwise_singleton _ _
 | z :: l,h=>by
  obtain ⟨h1,h2⟩:=List.pairwise_cons.1 h
  unfold qd7
  split
  ·rename_i hz
   refine List.pairwise_cons.2 ⟨fun y hy=>?_,qt8 h2⟩
   rcases mem_lines.1 hy with rfl|h3
   ·exact hz
   ·exact h1 y h3
  ·rename_i hz
   split
   ·exact h
   ·rename_i he
    refine List.pairwise_cons.2 ⟨fun y hy=>?_,h⟩
    rcases List.mem_cons.1 hy with rfl|hy
    ·omega
    ·have:=h1 y hy;omega
theorem qn6 {y:Int}:∀ {ls W:List Int},y∈qmc W ls↔y∈W∨y∈ls
 | [],W=>by simp [qmc]
 | x :: ls,W=>by
  have e:qmc W (x :: ls)=qmc (qd7 W x) ls:=rfl
  rw [e,qn6,mem_lines,List.mem_cons]
  constructor
  ·rintro ((h|h)|h)
   ·exact .inr (.inl h)
   ·exact .inl h
   ·exact .inr (.inr h)
  ·rintro (h|h|h)
   ·exact .inl (.inr h)
   ·exact .inl (.inl h)
   ·exact .inr h
theorem qom:∀ {ls W:List Int},AscI W→AscI (qmc W ls)
 | [],_,h=>h
 | x :: ls,W,h=>by
  have e:qmc W (x :: ls)=qmc (qd7 W x) ls:=rfl
  rw [e]
  exact qom (qt8 h)
theorem qr2:∀ {xs ys:List Int},AscI xs→AscI ys→(∀ x,x∈xs↔x∈ys)→xs=ys
 | [],[],_,_,_=>rfl
 | [],y :: ys,_,_,h=>by have:=(h y).2 (List.mem_cons_self ..);simp at this
 | x :: xs,[],_,_,h=>by have:=(h x).1 (List.mem_cons_self ..);simp at this
 | x :: xs,y :: ys,h1,h2,h=>by
  obtain ⟨a1,a2⟩:=List.pairwise_cons.1 h1
  obtain ⟨b1,b2⟩:=List.pairwise_cons.1 h2
  have hxy:x=y:=by
   rcases List.mem_cons.1 ((h x).1 (List.mem_cons_self ..)) with e|hx
   ·exact e
   ·rcases List.mem_cons.1 ((h y).2 (List.mem_cons_self ..)) with e|hy
    ·exact e.symm
    ·have:=b1 x hx;have:=a1 y hy;omega
  subst hxy
  refine congrArg _ (qr2 a2 b2 fun z=>⟨fun hz=>?_,fun hz=>?_⟩)
  ·rcases List.mem_cons.1 ((h z).1 (List.mem_cons_of_mem _ hz)) with e|hz'
   ·subst e;have:=a1 z hz;omega
   ·exact hz'
  ·rcases List.mem_cons.1 ((h z).2 (List.mem_cons_of_mem _ hz)) with e|hz'
   ·subst e;have:=b1 z hz;omega
   ·exact hz'
theorem cpt_inv {zs:List Int} (hs:zs.Pairwise fun x y=>x≤y):∀ m:Nat,m≤zs.length→AscI (Lib.compactUpTo zs.toArray m)∧(∀ x,x∈Lib.compactUpTo zs.toArray m↔x∈zs.take m):=by
 intro m
 induction m with
 | zero=>intro _;exact ⟨List.Pairwise.nil,fun x=>by simp [Lib.compactUpTo]⟩
 | succ m ih =>
  intro hm
  obtain ⟨h1,h2⟩:=ih (by omega)
  have hlt:m<zs.length:=by omega
  have hg:zs.toArray[m]! = zs[m]:=by simp [hlt]
  have ht:zs.take (m+1)=zs.take m++[zs[m]]:=by rw [List.take_add_one,List.getElem?_eq_getElem hlt];rfl
  have hle:∀ x,x∈zs.take m→x≤zs[m]:=fun x hx=>by
   obtain ⟨j,hj,rfl⟩:=List.getElem_of_mem hx
   rw [List.length_take] at hj
   rw [List.getElem_take]
   exact (List.pairwise_iff_getElem.1 hs) j m (by omega) hlt (by omega)
  rw [Lib.compactUpTo_succ]
  cases hk:Lib.keeps zs.toArray m with
  | true =>
   simp only [if_true,hg,ht]
   refine ⟨List.pairwise_append.2 ⟨h1,List.pairwise_singleton _ _,fun x hx y hy=>?_⟩,fun x=>by rw [List.mem_append,List.mem_append,h2]⟩
   rw [List.mem_singleton] at hy
   subst hy
   have hx':=(h2 x).1 hx
   have h3:=hle x hx'
   rcases Nat.eq_zero_or_pos m with h0|h0
   ·subst h0;simp at hx'
   ·have hne:zs[m]≠zs[m-1]:=fun e=>by
     have:Lib.keeps zs.toArray m=false:=Lib.keeps_neg h0 (by rw [hg,e];simp [show m-1<zs.length by omega])
     rw [hk] at this;cases this
    have h4:x≤zs[m-1]:=by
     obtain ⟨j,hj,rfl⟩:=List.getElem_of_mem hx'
     rw [List.length_take] at hj
     rw [List.getElem_take]
     rcases Nat.lt_or_ge j (m-1) with h5|h5
     ·exact (List.pairwise_iff_getElem.1 hs) j (m-1) (by omega) (by omega) h5
     ·have:j=m-1:=by omega
      subst this;exact Int.le_refl _
    have h5:=(List.pairwise_iff_getElem.1 hs) (m-1) m (by omega) hlt (by omega)
    omega
  | false =>
   simp only [Bool.false_eq_true,if_false,List.append_nil,ht]
   refine ⟨h1,fun x=>?_⟩
   rw [h2,List.mem_append,List.mem_singleton]
   refine ⟨.inl,?_⟩
   rintro (h3|rfl)
   ·exact h3
   ·rcases Nat.eq_zero_or_pos m with h0|h0
    ·subst h0
     have:=Lib.keeps_lt_one zs.toArray 0 (by omega)
     rw [hk] at this;cases this
    ·have he:zs[m]=zs[m-1]:=by
      rcases Decidable.em (zs[m]=zs[m-1]) with h|h
      ·exact h
      ·have:Lib.keeps zs.toArray m=true:=Lib.keeps_pos (by rw [hg];simpa [show m-1<zs.length by omega] using h)
       rw [hk] at this;cases this
     rw [he]
     refine List.mem_of_getElem? (i:=m-1) ?_
     rw [List.getElem?_take_of_lt (by omega),List.getElem?_eq_getElem]
theorem srtI_asc (xs:List Int):(qpk xs).Pairwise fun x y=>x≤y:=by
 have h:=List.pairwise_mergeSort (le:=fun x y:Int=>decide (x≤y)) (fun a b c h1 h2=>by simp at *;omega) (fun a b=>by simp;omega) xs
 unfold qpk
 simpa using h
theorem cpt_asc (xs:List Int):AscI (qsk (qpk xs))∧∀ x,x∈qsk (qpk xs)↔x∈xs:=by
 obtain ⟨h1,h2⟩:=cpt_inv (srtI_asc xs) (qpk xs).length (Nat.le_refl _)
 refine ⟨h1,fun x=>?_⟩
 have h3:x∈qsk (qpk xs)↔x∈(qpk xs).take (qpk xs).length:=h2 x
 rw [h3,List.take_length]
 exact (List.mergeSort_perm xs _).mem_iff
theorem cpt_fold {xs ls:List Int} (h:AscI xs):qsk (qpk (xs++ls))=qmc xs ls:=by
 obtain ⟨h1,h2⟩:=cpt_asc (xs++ls)
 exact qr2 h1 (qom h) fun x=>by rw [h2,qn6,List.mem_append]
theorem cptI_le (xs:List Int):(qsk xs).length≤xs.length:=by
 unfold qsk Lib.compact Lib.compactUpTo
 rw [List.length_map]
 exact Nat.le_trans (List.length_filter_le _ _) (by simp)
theorem qti (ks:List Pg) (ls:List Int):AscI (qdu ks ls):=qom List.Pairwise.nil
theorem mem_missR {ks:List Pg} {ls:List Int} {x:Int}:x∈qdu ks ls↔x∈ls∧qe5 ks x=false:=by
 unfold qdu qdh qe5
 rw [qn6,List.mem_filter]
 constructor
 ·rintro (h|⟨h1,h2⟩)
  ·cases h
  ·exact ⟨h1,by revert h2;cases qgh ks x <;> simp⟩
 ·rintro ⟨h1,h2⟩
  exact .inr ⟨h1,by revert h2;cases qgh ks x <;> simp⟩
theorem cpt_miss (ks:List Pg) (ls:List Int):qsk (qpk (qdh ks ls))=qdu ks ls:=cpt_fold (xs:=[]) List.Pairwise.nil
theorem qkn (ks:List Pg) (ls:List Int) (hn:ls.length≤1000000):FnP Tryz.prog 33 [qal tPg ks,qal tI64 ls] (qal tI64 (qdu ks ls)):=by
 have hvl:(qdh ks ls).length≤ls.length:=List.length_filter_le _ _
 have hsl:=qm9 (qdh ks ls)
 have hcl:(qsk (qpk (qdh ks ls))).length≤(qpk (qdh ks ls)).length:=cptI_le _
 refine FnP.enter func33 ntmps33 rfl rfl ?_
 intro c hX
 refine qgn (t:=1) rfl (fun hlen=>?_)
 refine t12 ?_
 refine qcn 3 tI64 ?_
 refine t7 ?_
 refine qbr (fun z:Nat×(Option Addr×Nat)=>z.1≤ls.length) (fun z=>[(0,qal tPg ks),(1,qal tI64 ls),(5,Is (slV (qdh ks (ls.take z.1)).length z.2)),(10,qal tI64 ls),(11,Is (.int .i64 (ls.length:Nat))),(12,Is (.int .i64 (z.1:Nat)))]) (fun z=>[buf (slV (qdh ks (ls.take z.1)).length z.2) 3 tI64 (qdh ks (ls.take z.1))]) (fun z=>ls.length-z.1) (0,(none,0)) (Nat.zero_le _) qbl qab ?_
 rintro ⟨k,s⟩ hk
 dsimp only at hk ⊢
 refine t6 ?_
 refine cN ?_ ?_ <;> intro h3
 ·have hlt:k<ls.length:=by have:=of_decide_eq_true h3;omega
  clear h3
  obtain ⟨l,hz⟩:∃ z,ls[k]?=some z:=⟨ls[k],List.getElem?_eq_getElem hlt⟩
  have hmt:=qn5 (ks:=ks) hz
  have hml:(qdh ks (ls.take k)).length≤(qdh ks ls).length:=((List.take_sublist _ _).filter _).length_le
  refine t15 ?_
  refine kS call60 (qh7 _ _) ?_
  refine t4 ?_
  intro i8
  refine t10 ?_
  refine cN ?_ ?_ <;> intro h6
  ·have g:(qgh ks l).isNone=true:=by revert h6;cases qgh ks l <;> simp
   clear h6
   rw [if_pos g] at hmt
   refine t3 ?_
   refine qap rfl (qcb (size:=1) (qs:=[(0,_)]) rfl rfl rfl ⟨⟨rfl,_,(er rfl),qbn⟩,trivial⟩ rf rf) ?_
   (refine qe6 rfl (qb9 (er rfl) (fun _=>qae) (by exact Ev.sub rfl (by exact SubL.row (xs:=[l]) rf rf qev)) (by exact qep rfl rfl rfl) qbt) ?_;intro i27)
   refine t8 ?_
   rw [← hmt]
   exact qaa (k+1,i27) (by dsimp only;omega) (by dsimp only;omega) qbl qab
  have g:¬ (qgh ks l).isNone=true:=by revert h6;cases qgh ks l <;> simp
  clear h6
  rw [if_neg g] at hmt
  refine t7 ?_
  rw [← hmt]
  exact qaa (k+1,s) (by dsimp only;omega) (by dsimp only;omega) qbl qab
 have hke:k=ls.length:=by have:=of_decide_eq_false h3;omega
 subst hke
 clear h3
 rw [List.take_length]
 refine t8 ?_
 (refine qe6 rfl (by ((refine qdy qbh call72 (sortB_ok (qdh ks ls) s ?_) ⟨evS,trivial⟩);all_goals (omega))) ?_;intro i30)
 refine t3 ?_
 rw [← hsl]
 refine t2 ?_
 (refine qe6 rfl (by ((refine qdy qbh call73 (qvw (qpk (qdh ks ls)) s ?_ hcl) ⟨evS,trivial⟩);all_goals (omega))) ?_;intro i32)
 refine t4 ?_
 refine qee hX (v:=slV (qsk (qpk (qdh ks ls))).length s) qae ?_
 rw [← cpt_miss ks ls]
 exact qaq (Bs:=[qal tI64 (qsk (qpk (qdh ks ls)))]) results33 eT () SubL.rfl' (List.nil_sublist _)
def IsNS (xs:List Int):VP:=if xs=[] then Is (.slice none 0 0) else qal tI64 xs
theorem isNS_nil:IsNS []=Is (.slice none 0 0):=if_pos rfl
theorem zbr {xs:List Int} (h:xs=[]):IsNS xs=Is (.slice none 0 0):=if_pos h
theorem qtn {xs:List Int} (h:xs≠[]):IsNS xs=qal tI64 xs:=if_neg h
theorem subNS {L:List Item} (xs:List Int):SubL L (IsNS xs) (qal tI64 xs):=by
 by_cases h:xs=[]
 ·subst h;rw [isNS_nil];exact SubL.nil
 ·rw [qtn h];exact SubL.rfl'
theorem lines_ne (W:List Int) (x:Int):qd7 W x≠[]:=by
 cases W with
 | nil=>simp [qd7]
 | cons y l =>
  unfold qd7
  split
  ·simp
  ·split <;> simp
theorem qv2 (ks:List Pg) (ls:List Int) (hn:ls.length≤1000000):FnP Tryz.prog 45 [qal tPg ks,qal tI64 ls] (IsNS (qdu ks ls)):=by
 refine FnP.enter func45 ntmps45 rfl rfl ?_
 intro c hX
 refine t17 ?_
 refine qb0 5 (IsNS (qdu ks (ls.take 0))) rfl (SubL.eq (zbr rfl).symm) ?_
 refine qaz [(0,_),(1,_),(4,_)] [] (fun k:Nat=>k≤(ls).length) (fun k=>[(5,IsNS (qdu ks (ls.take k))),(6,Is (.int .i64 (k:Nat)))]) (fun k=>[]) (fun k=>(ls).length-k) 0 (Nat.zero_le _) qbl qab ?_
 rintro k hk
 refine t9 ?_
 refine cN ?_ ?_ <;> intro h3
 ·have hlt:k<(ls).length:=by have:=of_decide_eq_true h3;omega
  clear h3
  obtain ⟨z,hz⟩:∃ q,(ls)[k]?=some q:=⟨_,List.getElem?_eq_getElem hlt⟩
  have e:=qpu (ks:=ks) hz
  have hl0:(qdu ks (ls.take k)).length≤1000000:=by have:=qi7 ks (ls.take k);have:=List.length_take_le k ls;omega
  refine t11 ?_
  refine kS call19 (qbu _ _) ?_
  refine t4 ?_
  intro i7
  refine t10 ?_
  refine cN ?_ ?_ <;> intro h6
  ·rw [ifT h6] at e
   have e9:IsNS (qdu ks (ls.take (k+1)))=qal tI64 (qd7 (qdu ks (ls.take k)) z):=by rw [e,qtn (lines_ne _ _)]
   refine t6 ?_
   refine qge 26 (qal tI64 (qdu ks (ls.take k))) rfl (subNS _) ?_
   refine qap rfl (by ((refine qac call78 (qim (qdu ks (ls.take k)) _ ?_) ⟨evS,⟨evS,trivial⟩⟩);all_goals (assumption))) ?_
   refine t9 ?_
   exact qaa (k+1) (by omega) (by omega) (by rw [e9];exact qbl) qab
  rw [ifF h6] at e
  have e9:IsNS (qdu ks (ls.take (k+1)))=IsNS (qdu ks (ls.take k)):=by rw [e]
  refine t8 ?_
  exact qaa (k+1) (by omega) (by omega) (by rw [e9];exact qbl) qab
 have hke:k=(ls).length:=by have:=of_decide_eq_false h3;omega
 clear h3
 subst hke
 (try rw [List.take_length])
 refine t12 ?_
 refine qa4 results45 rfl () (SubL.eq ?_) (List.nil_sublist _)
 rfl
theorem SubL.exI {L:List Item} {ι:Type} {R:ι→VP} (i:ι):SubL L (R i) (VEx R):=fun φ v _ h=>⟨i,h⟩
theorem SubL.aggN {L:List Item} {As Bs Bs':List VP} (e:Bs=Bs') (h:SubLs L As Bs'):SubL L (IsAgg As) (IsAgg Bs):=by rw [e];exact SubL.agg h
theorem SubLs.nrmd {L:List Item} {As Bs Bs':List VP} (e:Bs=Bs') (h:SubLs L As Bs'):SubLs L As Bs:=by rw [e];exact h
theorem SubLs.app {L:List Item}:∀ {As Bs As' Bs':List VP},SubLs L As Bs→SubLs L As' Bs'→SubLs L (As++As') (Bs++Bs')
 | [],[],_,_,_,h=>h
 | _ :: _,_ :: _,_,_,⟨h1,h2⟩,h=>⟨h1,SubLs.app h2 h⟩
theorem qkl:∀ (Bs P Z R:List VP),Z.length=Bs.length→ovr (P++(Z++R)) P.length Bs=P++(Bs++R)
 | [],P,Z,R,h=>by
  have:Z=[]:=List.eq_nil_of_length_eq_zero (by simpa using h)
  subst this;rfl
 | B :: Bs,P,[],R,h=>by simp at h
 | B :: Bs,P,z :: Z,R,h=>by
  have e:=qkl Bs (P++[B]) Z R (by simpa using h)
  have e1:(P++(z :: Z++R)).set P.length B=P++[B]++(Z++R):=by
   rw [List.set_append_right _ _ (Nat.le_refl _)];simp
  show ovr ((P++(z :: Z++R)).set P.length B) (P.length+1) Bs=_
  rw [e1,show P.length+1=(P++[B]).length by simp,e]
  simp
theorem ovr_two {Z A B:List VP} {s:Nat} (hA:A.length=s) (hB:B.length=s) (hZ:Z.length=2*s):ovr (ovr Z (0*s) A) (1*s) B=A++B:=by
 have e1:=qkl A [] (Z.take s) (Z.drop s) (by rw [List.length_take];omega)
 rw [List.take_append_drop] at e1
 have e2:=qkl B A (Z.drop s) [] (by rw [List.length_drop];omega)
 simp only [List.append_nil,List.nil_append,List.length_nil] at e1 e2
 subst hA
 rw [Nat.zero_mul,Nat.one_mul,e1,e2]
theorem zay {Z A B C:List VP} {s:Nat} (hA:A.length=s) (hB:B.length=s) (hC:C.length=s) (hZ:Z.length=3*s):ovr (ovr (ovr Z (0*s) A) (1*s) B) (2*s) C=A++(B++C):=by
 have e1:=qkl A [] (Z.take s) (Z.drop s) (by rw [List.length_take];omega)
 rw [List.take_append_drop] at e1
 have e2:=qkl B A ((Z.drop s).take s) ((Z.drop s).drop s) (by rw [List.length_take,List.length_drop];omega)
 rw [List.take_append_drop] at e2
 have e3:=qkl C (A++B) ((Z.drop s).drop s) [] (by rw [List.length_drop,List.length_drop];omega)
 simp only [List.append_nil,List.nil_append,List.length_nil,List.append_assoc] at e1 e2 e3
 subst hA
 rw [Nat.zero_mul,Nat.one_mul,e1,e2,show 2*A.length=(A++B).length by rw [List.length_append];omega,e3]
theorem SubL.row2 {L:List Item} {α:Type} {T:Ty α} {x y:α} {A B:List VP} {zs:List Value} {s m:Nat} (hs:s=T.size) (hA:A.length=s) (hB:B.length=s) (hm:m=2*s) (h1:SubLs L A (T.cells x)) (h2:SubLs L B (T.cells y)):SubL L (qew 2 s (ovr (ovr (List.map Is (qmz zs m)) (0*s) A) (1*s) B)) (qal T [x,y]):=by
 rw [ovr_two hA hB (by simp [qmz,hm])]
 exact SubL.row rfl hs (by simpa using SubLs.app h1 h2)
theorem SubL.row3 {L:List Item} {α:Type} {T:Ty α} {x y z:α} {A B C:List VP} {zs:List Value} {s m:Nat} (hs:s=T.size) (hA:A.length=s) (hB:B.length=s) (hC:C.length=s) (hm:m=3*s) (h1:SubLs L A (T.cells x)) (h2:SubLs L B (T.cells y)) (h3:SubLs L C (T.cells z)):SubL L (qew 3 s (ovr (ovr (ovr (List.map Is (qmz zs m)) (0*s) A) (1*s) B) (2*s) C)) (qal T [x,y,z]):=by
 rw [zay hA hB hC (by simp [qmz,hm])]
 exact SubL.row rfl hs (by simpa using SubLs.app h1 (SubLs.app h2 h3))
theorem qof {f:Nat→Option (Nat×Nat)}:∀ {qs:List (Nat×List VP)} {As Rs:List VP},qkp f As qs=some Rs→Rs.length=As.length
 | [],As,Rs,h=>by unfold qkp at h;cases h;rfl
 | (i,Bs) :: qs,As,Rs,h=>by
  unfold qkp at h
  split at h
  ·cases h
  ·rename_i off size _
   cases g:(Nat.beq Bs.length size&&Nat.ble (off+Bs.length) As.length) with
   | false=>rw [g] at h;cases h
   | true=>rw [g] at h;rw [qof h,zaz]
section
variable {P:Program} {c:Ctx} {A:Nat→Option VP} {L:List Item} {d:Option Tmp} {ty:TypeId} {pos:String} {af:Array Edge} {g:Option (Nat×Bool)}
theorem qad {t e:TypeId} {n size:Nat} {z:Value} {ps:Array (Nat×Operand)} {qs:List (Nat×List VP)} {Rs:List VP} (hu:P.underlying t=some (.slice e)) (hs:(P.info? e).map (·.size)=some size) (hz:(P.info? e).map (·.zero)=some (some z))
  (hq:PartsE A L ps.toList qs) (hf:qkp (fun i=>some (i*size,size)) ((qmz (qen z) (n*size)).map Is) qs=some Rs)
  (hn:(Nat.ble (n*size) 16777216&&Nat.blt 0 (n*size)&&Nat.ble n 1000000&&(qmz (qen z) (n*size)).all Value.oneCell')=true) :
  OpP P c ⟨d,.buildSlice t n ps,ty,pos,af,g⟩ A L (qew n size Rs):=
 qcb hu hs hz hq hf (by rw [hn,qof hf,List.length_map,qmz,List.length_map,List.length_range];simp)
end
def qek {ι:Type} (p:ι→Prop) (R:ι→VP):VP:=⟨fun φ v=>∃ i,p i∧(R i).ok φ v,fun h ⟨i,hp,k⟩=>⟨i,hp,(R i).mono h k⟩⟩
section
variable {P:Program} {c:Ctx} {N:Nat} {E:Env} {L:List Item} {Q:Exit→Act→World→Prop} {ops:Array Oper} {rest:List Oper}
theorem qa5 {ι:Type} {p:ι→Prop} {R:ι→VP} (t:Nat) (hl:look E t=some (qek p R)) (h:∀ i,p i→JL P ops Q c N rest ((t,R i) :: E) L):JL P ops Q c N rest E L:=fun φ a w st =>
 let ⟨i,hp,hi⟩:=st.env t _ hl
 h i hp φ a w (st.tell hi)
theorem qmx {ι:Type} {p:ι→Prop} {R:ι→VP} {nd:List Nat} {k:Nat} (t:Nat) (hl:look E t=some (qek p R)) (h:∀ i,p i→JD P ops Q c N nd k rest ((t,R i) :: E) L):JD P ops Q c N nd k rest E L:=fun e1 e2 e3 e4 φ a w lst hp st =>
 let ⟨i,hq,hi⟩:=st.env t _ hl
 h i hq e1 e2 e3 e4 φ a w lst hp (st.tell hi)
theorem qci {fn:Func} {ι:Type} {R:ι→VP} {L':Unit→List Item} {rs:List ResultVar} {Bs:List VP} (i:ι) (hB:qu3 Bs=R i) (hr:fn.results=rs.toArray) (hE:qqe P E L rs Bs) (hL:(L' ()).Sublist L) (hD0:c.ds=[]:=by first|assumption|exact And.right (by assumption)):JQ c N E L (bodyPost P fn (qus c (fun _:Unit=>VEx R) L')) .ret:=
 qaq hr hE () (by rw [hB];exact SubL.exI i) hL hD0
theorem qcd {fn:Func} {ι:Type} {p:ι→Prop} {R:ι→VP} {L':Unit→List Item} {rs:List ResultVar} {Bs:List VP} (i:ι) (hB:qu3 Bs=R i) (hr:fn.results=rs.toArray) (hE:qqe P E L rs Bs) (hL:(L' ()).Sublist L) (hp:p i) (hD0:c.ds=[]:=by first|assumption|exact And.right (by assumption)):JQ c N E L (bodyPost P fn (qus c (fun _:Unit=>qek p R) L')) .ret:=
 qaq hr hE () (by rw [hB];exact fun φ v _ h=>⟨i,hp,h⟩) hL hD0
end
end Go.Proofs.YtmgoplaamlignaaGreat
