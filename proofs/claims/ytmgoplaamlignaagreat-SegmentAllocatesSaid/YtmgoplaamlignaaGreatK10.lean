/- Texts laid together: walks of functions, what they compute, and plain laws of it. Own work. -/
import Derived.Test.YtmgoplaamlignaaGreatK9
import Derived.Test.YtmgoplaamlignaaGreatK8
import Derived.Test.YtmgoplaamlignaaGreatK7
import Derived.Test.YtmgoplaamlignaaGreatK1
namespace Go.Proofs.YtmgoplaamlignaaGreat
open Go.RowKit Tryz
set_option linter.unusedVariables false
set_option linter.unusedSimpArgs false
set_option maxRecDepth 100000
set_option maxHeartbeats 4000000
structure S8 where
 s0:Pt
 s1:Pt
 s2:Pt
 s3:Pt
 s4:Pt
 s5:Pt
 s6:Pt
 s7:Pt
 deriving DecidableEq
def tS8:Ty S8:=⟨16,fun s=>[Is (.int .i64 s.s0.line),Is (.int .i64 s.s0.gen),Is (.int .i64 s.s1.line),Is (.int .i64 s.s1.gen),Is (.int .i64 s.s2.line),Is (.int .i64 s.s2.gen),Is (.int .i64 s.s3.line),Is (.int .i64 s.s3.gen),Is (.int .i64 s.s4.line),Is (.int .i64 s.s4.gen),Is (.int .i64 s.s5.line),Is (.int .i64 s.s5.gen),Is (.int .i64 s.s6.line),Is (.int .i64 s.s6.gen),Is (.int .i64 s.s7.line),Is (.int .i64 s.s7.gen)],fun _=>rfl⟩
@[reducible] def IsS8 (s:S8):VP:=IsAgg (tS8.cells s)
def S8.cells (s:S8):List Value:=[.int .i64 s.s0.line,.int .i64 s.s0.gen,.int .i64 s.s1.line,.int .i64 s.s1.gen,.int .i64 s.s2.line,.int .i64 s.s2.gen,.int .i64 s.s3.line,.int .i64 s.s3.gen,.int .i64 s.s4.line,.int .i64 s.s4.gen,.int .i64 s.s5.line,.int .i64 s.s5.gen,.int .i64 s.s6.line,.int .i64 s.s6.gen,.int .i64 s.s7.line,.int .i64 s.s7.gen]
def S8.nil:S8:=⟨Pt.nil,Pt.nil,Pt.nil,Pt.nil,Pt.nil,Pt.nil,Pt.nil,Pt.nil⟩
theorem qbo {a b:List VP} (h:a=b:=by (first|((simp only [tPg,qur,tI64,tPt,tHd,tRe,tNd,tRt,tS8,tEn,tBk,tS19,tRw,tVs,tO23,tS23,tP23,tN24,tOp24,tO24,tS24,tP24,tEp26,tEO26,tES26,tCu,tSO26,tSS26,tCo,tSt29,tRs29,tJ31,tO31,tS31,tRun31,tFd31,tHp,tS19F,qo4,qsr,qz2,qz1,tS31F,tRun31F,qen,Nat.reduceMul,Nat.reduceAdd,Value.cells,ovr,List.set_cons_succ,List.set_cons_zero,List.map_cons,List.map_nil,List.drop_succ_cons,List.drop_zero,List.take_succ_cons,List.take_zero,List.flatMap_cons,List.flatMap_nil,List.append_nil,List.cons_append,List.nil_append,List.toList_toArray]);(try exact rfl))|exact rfl)):a=b:=h
theorem offT {x k:Nat} (h:x=k:=by first|exact (rfl:_=0)|exact (rfl:_=1)|exact (rfl:_=2)|exact (rfl:_=3)|exact (rfl:_=4)|exact (rfl:_=5)|exact (rfl:_=6)|exact (rfl:_=7)|exact (rfl:_=8)|exact (rfl:_=9)|exact (rfl:_=10)|exact (rfl:_=11)|exact (rfl:_=12)|exact (rfl:_=13)|exact (rfl:_=14)|exact (rfl:_=15)|exact (rfl:_=16)|exact (rfl:_=17)|exact (rfl:_=18)|exact (rfl:_=19)|exact (rfl:_=20)|exact (rfl:_=21)|exact (rfl:_=22)|exact (rfl:_=23)|exact (rfl:_=24)|exact (rfl:_=25)|exact (rfl:_=26)|exact (rfl:_=27)|exact (rfl:_=28)|exact (rfl:_=29)|exact (rfl:_=30)|exact (rfl:_=31)|exact (rfl:_=32)|exact (rfl:_=33)|exact (rfl:_=34)|exact (rfl:_=35)|exact (rfl:_=36)|exact (rfl:_=37)|exact (rfl:_=38)|exact (rfl:_=39)):x=k:=h
theorem qt4 {n s:Nat} {As:List VP}:qdx (qew n s As) [qew n s As]:=fun φ v ⟨b,e,k⟩=>⟨[v],by rw [e];rfl,⟨⟨b,e,k⟩,trivial⟩,by rw [e];exact qih rfl⟩
theorem qxu {B:Nat} {α:Type} {T:Ty α} {xs:List α}:qdx (qbe B (qal T xs)) [qbe B (qal T xs)]:=fun φ v h=>by
 obtain ⟨a,n,cp,e,k⟩:=h
 exact ⟨[v],by rw [e];rfl,⟨⟨a,n,cp,e,k⟩,trivial⟩,by rw [e];exact qih rfl⟩
theorem qp6 {b:Bool} {n s:Nat} {As:List VP} {α:Type} {T:Ty α} {xs:List α}:qdx (qdn b (qew n s As) (qal T xs)) [qdn b (qew n s As) (qal T xs)]:=fun φ v h=>by
 refine ⟨[v],?_,⟨h,trivial⟩,?_⟩
 ·cases b
  ·obtain ⟨a,m,cp,e,_⟩:(qal T xs).ok φ v:=h
   rw [e];rfl
  ·obtain ⟨a,e,_⟩:(qew n s As).ok φ v:=h
   rw [e];rfl
 ·cases b
  ·obtain ⟨a,m,cp,e,_⟩:(qal T xs).ok φ v:=h
   rw [e];exact qih rfl
  ·obtain ⟨a,e,_⟩:(qew n s As).ok φ v:=h
   rw [e];exact qih rfl
theorem qcy {A:VP} {As:List VP} (h:qdx A As:=by first|exact qok|exact qrw rfl|exact qrv|exact qt4|exact qxu|exact qp6|exact qoi|exact qoj rfl):qdx A As:=h
theorem asT {p:Prop} (h:p:=by with_reducible assumption):p:=h
theorem szT {x:Option Nat} {n:Nat} (h:x=some n:=by first|exact (rfl:_=some 9)|exact (rfl:_=some 2)|exact (rfl:_=some 14)|exact (rfl:_=some 11)|exact (rfl:_=some 3)|exact (rfl:_=some 30)|exact (rfl:_=some 7)|exact (rfl:_=some 16)|exact (rfl:_=some 5)|exact (rfl:_=some 15)|exact (rfl:_=some 4)|exact (rfl:_=some 20)|exact (rfl:_=some 12)|exact (rfl:_=some 8)|exact (rfl:_=some 6)|exact (rfl:_=some 17)|exact (rfl:_=some 27)|exact (rfl:_=some 1)|exact (rfl:_=some 10)|exact (rfl:_=some 13)|exact (rfl:_=some 18)|exact (rfl:_=some 19)|exact (rfl:_=some 21)|exact (rfl:_=some 22)|exact (rfl:_=some 23)|exact (rfl:_=some 24)|exact (rfl:_=some 25)|exact (rfl:_=some 26)|exact (rfl:_=some 28)|exact (rfl:_=some 29)):x=some n:=h
theorem offI {x:Int} {k:Nat} (h:x=k:=by first|exact (rfl:_=((0:Nat):Int))|exact (rfl:_=((1:Nat):Int))|exact (rfl:_=((2:Nat):Int))|exact (rfl:_=((3:Nat):Int))|exact (rfl:_=((4:Nat):Int))|exact (rfl:_=((5:Nat):Int))|exact (rfl:_=((6:Nat):Int))|exact (rfl:_=((7:Nat):Int))|exact (rfl:_=((8:Nat):Int))):x=k:=h
inductive PartsI (A:Nat→Option VP) (L:List Item):List (Nat×Operand)→List (Nat×List VP)→Prop
 | nil:PartsI A L [] []
 | cons {i:Nat} {x:Operand} {D:VP} {Bs:List VP} {l:List (Nat×Operand)} {m:List (Nat×List VP)} (hx:Ev A L x D) (hD:qdx D Bs) (h:PartsI A L l m):PartsI A L ((i,x) :: l) ((i,Bs) :: m)
theorem PartsI.e {A:Nat→Option VP} {L:List Item} {l:List (Nat×Operand)} {m:List (Nat×List VP)} (h:PartsI A L l m):PartsE A L l m:=by
 induction h with
 | nil=>exact trivial
 | cons hx hD _ ih=>exact ⟨⟨rfl,_,hx,hD⟩,ih⟩
theorem partsT {A:Nat→Option VP} {L:List Item} {l:List (Nat×Operand)} {m:List (Nat×List VP)} (h:PartsI A L l m:=by first|exact PartsI.nil|exact (PartsI.cons (er rfl) qcy PartsI.nil)|exact (PartsI.cons (er rfl) qcy (PartsI.cons (er rfl) qcy PartsI.nil))|exact (PartsI.cons (er rfl) qcy (PartsI.cons (er rfl) qcy (PartsI.cons (er rfl) qcy PartsI.nil)))|exact (PartsI.cons (er rfl) qcy (PartsI.cons (er rfl) qcy (PartsI.cons (er rfl) qcy (PartsI.cons (er rfl) qcy PartsI.nil))))|exact (PartsI.cons (er rfl) qcy (PartsI.cons (er rfl) qcy (PartsI.cons (er rfl) qcy (PartsI.cons (er rfl) qcy (PartsI.cons (er rfl) qcy PartsI.nil)))))|exact (PartsI.cons (er rfl) qcy (PartsI.cons (er rfl) qcy (PartsI.cons (er rfl) qcy (PartsI.cons (er rfl) qcy (PartsI.cons (er rfl) qcy (PartsI.cons (er rfl) qcy PartsI.nil))))))|exact (PartsI.cons (er rfl) qcy (PartsI.cons (er rfl) qcy (PartsI.cons (er rfl) qcy (PartsI.cons (er rfl) qcy (PartsI.cons (er rfl) qcy (PartsI.cons (er rfl) qcy (PartsI.cons (er rfl) qcy PartsI.nil)))))))|exact (PartsI.cons (er rfl) qcy (PartsI.cons (er rfl) qcy (PartsI.cons (er rfl) qcy (PartsI.cons (er rfl) qcy (PartsI.cons (er rfl) qcy (PartsI.cons (er rfl) qcy (PartsI.cons (er rfl) qcy (PartsI.cons (er rfl) qcy PartsI.nil))))))))):PartsI A L l m:=h
theorem qta {P:Program} {c:Ctx} {A:Nat→Option VP} {L:List Item} {d:Option Tmp} {ty:TypeId} {pos:String} {af:Array Edge} {g:Option (Nat×Bool)} {t:TypeId} {ps:Array (Nat×Operand)} {fs:List Field} {zs:List Value} {pl:List (Nat×Nat)} {qs:List (Nat×List VP)} {Rs0 Rs:List VP} (hu:P.underlying t=some (.struct fs.toArray)) (hz:(P.info? t).map (·.zero)=some (some (.agg zs.toArray))) (h1:(zs.all Value.oneCell')=true)
  (hpl:qi0 P fs=some pl) (hq:PartsI A L ps.toList qs) (hf:qkp (fun i=>pl[i]?) (zs.map Is) qs=some Rs0) (hR:Rs0=Rs):OpP P c ⟨d,.build t ps,ty,pos,af,g⟩ A L (IsAgg Rs):=qlg hu hz h1 hpl hq.e hf hR
theorem opF {P:Program} {c:Ctx} {o:Oper} {A:Nat→Option VP} {L:List Item} {F:VP} (h:OpP P c o A L F:=by first|((with_reducible show OpP _ _ ⟨_,.move _,_,_,_,_⟩ _ _ _);exact qay rfl)|((with_reducible show OpP _ _ ⟨_,.assign _,_,_,_,_⟩ _ _ _);exact qeb rfl)|((with_reducible show OpP _ _ ⟨_,.extract _ _,_,_,_,_⟩ _ _ _);exact qjv (er rfl) rfl)|((with_reducible show OpP _ _ ⟨_,.nilCheck _,_,_,_,_⟩ _ _ _);(first|exact qg4 (er rfl)|exact qn1 (er rfl)))|((with_reducible show OpP _ _ ⟨_,.fieldAddr _ _ _,_,_,_,_⟩ _ _ _);(first|exact qbf (er rfl) rfl rfl rfl offT|exact qa1 (er rfl) rfl rfl rfl offT qbo))|((with_reducible show OpP _ _ ⟨_,.load _ _,_,_,_,_⟩ _ _ _);(first|exact qbw (er rfl) rfl rfl rfl|exact qd9 (er rfl) qbp rf rf rf|exact qbs (er rfl) qbp rf rf szT rf qbo|exact qcm (er rfl) rfl rfl szT rf qbo))|((with_reducible show OpP _ _ ⟨_,.binOp .eql _ _ _ _,_,_,_,_⟩ _ _ _);(first|exact op_eql (er rfl) (er rfl)|exact qwt (er rfl) rfl|exact op_beq rfl (er rfl) (er rfl)))|((with_reducible show OpP _ _ ⟨_,.binOp .neq _ _ _ _,_,_,_,_⟩ _ _ _);(first|exact op_neq (er rfl) (er rfl)|exact op_bne rfl (er rfl) (er rfl)))|((with_reducible show OpP _ _ ⟨_,.binOp .add _ _ _ _,_,_,_,_⟩ _ _ _);(first|exact qfe (op:=.add) qgi qgi (qop _ _ _)|exact qfe (op:=.add) ql1 ql1 (zcv _ _ _)|exact qft (er rfl) (er rfl) qfv))|((with_reducible show OpP _ _ ⟨_,.binOp .lss _ _ _ _,_,_,_,_⟩ _ _ _);exact op_lss (er rfl) (er rfl))|((with_reducible show OpP _ _ ⟨_,.binOp .leq _ _ _ _,_,_,_,_⟩ _ _ _);exact op_leq (er rfl) (er rfl))|((with_reducible show OpP _ _ ⟨_,.binOp .gtr _ _ _ _,_,_,_,_⟩ _ _ _);exact op_gtr (er rfl) (er rfl))|((with_reducible show OpP _ _ ⟨_,.binOp .geq _ _ _ _,_,_,_,_⟩ _ _ _);exact op_geq (er rfl) (er rfl))|((with_reducible show OpP _ _ ⟨_,.pick _ _ _,_,_,_,_⟩ _ _ _);(first|exact qo5 (er rfl) rfl (fun h=>by first|exact SubL.rfl' | exact SubL.iteT (by first|(rw [h];rfl)|(simp_all;done)) SubL.rfl')|exact op_and (er rfl) rfl (fun h=>by first|exact SubL.rfl' | exact SubL.iteT (by first|(rw [h];rfl)|(simp_all;done)) SubL.rfl')|exact za3 (er rfl) rfl rfl))|((with_reducible show OpP _ _ ⟨_,.unOp .not _ _,_,_,_,_⟩ _ _ _);exact op_not (er rfl))|((with_reducible show OpP _ _ ⟨_,.convert _ _ _,_,_,_,_⟩ _ _ _);exact qfd (er rfl) rfl rfl qy3)|((with_reducible show OpP _ _ ⟨_,.call _,_,_,_,_⟩ _ _ _);(first|exact za5 (er rfl) rfl|exact qs9 (er rfl) rfl))|((with_reducible show OpP _ _ ⟨_,.binOp .sub _ _ _ _,_,_,_,_⟩ _ _ _);(first|exact qfe (op:=.sub) qgi qgi (qz4 _ _ _)|exact qfe (op:=.sub) ql1 ql1 (qz5 _ _ _)|exact qip (er rfl) (er rfl) qfv))|((with_reducible show OpP _ _ ⟨_,.binOp .mul _ _ _ _,_,_,_,_⟩ _ _ _);(first|exact qfe (op:=.mul) qgi qgi (zbd _ _ _)|exact qfe (op:=.mul) ql1 ql1 (zbe _ _ _)|exact qs7 (er rfl) (er rfl) qfv))|((with_reducible show OpP _ _ ⟨_,.binOp .quo _ _ _ _,_,_,_,_⟩ _ _ _);exact qi3 (er rfl) (er rfl) (by omega) qfv)|((with_reducible show OpP _ _ ⟨_,.binOp .rem _ _ _ _,_,_,_,_⟩ _ _ _);exact qkb (er rfl) (er rfl) (by omega) rfl)|((with_reducible show OpP _ _ ⟨_,.binOp .and _ _ _ _,_,_,_,_⟩ _ _ _);(first|exact qea (op:=.and) qgi qgi (by simp) (zct _ _)|exact qea (op:=.and) ql1 ql1 (by simp) (zcu _ _)))|((with_reducible show OpP _ _ ⟨_,.binOp .or _ _ _ _,_,_,_,_⟩ _ _ _);(first|exact qea (op:=.or) qgi qgi (by simp) (za0 _ _)|exact qea (op:=.or) ql1 ql1 (by simp) (or_u32 _ _)))|((with_reducible show OpP _ _ ⟨_,.binOp .xor _ _ _ _,_,_,_,_⟩ _ _ _);(first|exact qea (op:=.xor) qgi qgi (by simp) (quu _ _)|exact qea (op:=.xor) ql1 ql1 (by simp) (qzj _ _)))|((with_reducible show OpP _ _ ⟨_,.binOp .andNot _ _ _ _,_,_,_,_⟩ _ _ _);exact qea (op:=.andNot) qgi qgi (by simp) (qp9 _ _))|((with_reducible show OpP _ _ ⟨_,.binOp _ _ _ _ _,_,_,_,_⟩ _ _ _);exact qea (er rfl) (er rfl) (by simp) rfl)|((with_reducible show OpP _ _ ⟨_,.binOp .shl _ _ _ _,_,_,_,_⟩ _ _ _);(first|exact qd5 (k:=_) qgi (er rfl) (by first|omega|exact qbj _) qca|exact qg3 (k:=_) ql1 (er rfl) (by first|omega|exact qbj _) qca|exact qpq (er rfl) (er rfl) (by first|omega|exact qbj _) rfl))|((with_reducible show OpP _ _ ⟨_,.binOp .shr _ _ _ _,_,_,_,_⟩ _ _ _);(first|exact qhi (k:=_) qgi (er rfl) (by first|omega|exact qbj _) qca|exact qex (k:=_) ql1 (er rfl) (by first|omega|exact qbj _) qca|exact qs6 (er rfl) (er rfl) (by first|omega|exact qbj _) rfl))|((with_reducible show OpP _ _ ⟨_,.unOp .neg _ _,_,_,_,_⟩ _ _ _);exact op_neg (er rfl) qfv)|((with_reducible show OpP _ _ ⟨_,.unOp .xor _ _,_,_,_,_⟩ _ _ _);exact qwu (er rfl) rfl)|((with_reducible show OpP _ _ ⟨_,.field _ _ _,_,_,_,_⟩ _ _ _);exact qpr (er rfl) rfl rfl rfl rfl rfl)|((with_reducible show OpP _ _ ⟨_,.build _ _,_,_,_,_⟩ _ _ _);exact qta rfl rfl rfl rfl partsT rf qbo)|((with_reducible show OpP _ _ ⟨_,.indexAddr _ _ _,_,_,_,_⟩ _ _ _);first|exact qau (j:=_) (er rfl) (er rfl) rfl rfl rf asT|exact qan (er rfl) (er rfl) rfl szT offI (by decide))):OpP P c o A L F:=h
theorem opG {P:Program} {c:Ctx} {o:Oper} {A:Nat→Option VP} {L:List Item} {F:VP} (h:OpP P c o A L F:=by first|((with_reducible show OpP _ _ ⟨_,.move _,_,_,_,_⟩ _ _ _);(first|exact qws (Ev.sub rfl (SubL.iteT (by first|assumption|(simp;done)|(simp;omega)|(simp_all;done)) SubL.rfl'))|exact qws (er rfl)))|((with_reducible show OpP _ _ ⟨_,.assign _,_,_,_,_⟩ _ _ _);(first|exact qs8 (Ev.sub rfl (SubL.iteT (by first|assumption|(simp;done)|(simp;omega)|(simp_all;done)) SubL.rfl'))|exact qs8 (er rfl)))|((with_reducible show OpP _ _ ⟨_,.extract _ _,_,_,_,_⟩ _ _ _);exact qjv evG rfl)|((with_reducible show OpP _ _ ⟨_,.nilCheck _,_,_,_,_⟩ _ _ _);(first|exact qg4 evG|exact qn1 evG))|((with_reducible show OpP _ _ ⟨_,.fieldAddr _ _ _,_,_,_,_⟩ _ _ _);(first|exact qbf evG rfl rfl rfl offT|exact qa1 evG rfl rfl rfl offT qbo))|((with_reducible show OpP _ _ ⟨_,.load _ _,_,_,_,_⟩ _ _ _);(first|exact qbw evG rfl rfl rfl|exact qd9 evG qbp rf rf rf|exact qbs evG qbp rf rf szT rf qbo|exact qcm evG rfl rfl szT rf qbo))|((with_reducible show OpP _ _ ⟨_,.binOp .eql _ _ _ _,_,_,_,_⟩ _ _ _);(first|exact op_eql evG evG|exact qwt evG rfl|exact op_beq rfl evG evG))|((with_reducible show OpP _ _ ⟨_,.binOp .neq _ _ _ _,_,_,_,_⟩ _ _ _);(first|exact op_neq evG evG|exact op_bne rfl evG evG))|((with_reducible show OpP _ _ ⟨_,.binOp .add _ _ _ _,_,_,_,_⟩ _ _ _);(first|exact qfe (op:=.add) qiv qiv (qop _ _ _)|exact qfe (op:=.add) qiw qiw (zcv _ _ _)|exact qft evG evG qfv))|((with_reducible show OpP _ _ ⟨_,.binOp .lss _ _ _ _,_,_,_,_⟩ _ _ _);exact op_lss evG evG)|((with_reducible show OpP _ _ ⟨_,.binOp .leq _ _ _ _,_,_,_,_⟩ _ _ _);exact op_leq evG evG)|((with_reducible show OpP _ _ ⟨_,.binOp .gtr _ _ _ _,_,_,_,_⟩ _ _ _);exact op_gtr evG evG)|((with_reducible show OpP _ _ ⟨_,.binOp .geq _ _ _ _,_,_,_,_⟩ _ _ _);exact op_geq evG evG)|((with_reducible show OpP _ _ ⟨_,.pick _ _ _,_,_,_,_⟩ _ _ _);(first|exact qo5 evG rfl (fun h=>by first|exact SubL.rfl' | exact SubL.iteT (by first|(rw [h];rfl)|(simp_all;done)) SubL.rfl')|exact op_and evG rfl (fun h=>by first|exact SubL.rfl' | exact SubL.iteT (by first|(rw [h];rfl)|(simp_all;done)) SubL.rfl')|exact za3 evG rfl rfl))|((with_reducible show OpP _ _ ⟨_,.unOp .not _ _,_,_,_,_⟩ _ _ _);exact op_not evG)|((with_reducible show OpP _ _ ⟨_,.convert _ _ _,_,_,_,_⟩ _ _ _);exact qfd evG rfl rfl qy3)|((with_reducible show OpP _ _ ⟨_,.call _,_,_,_,_⟩ _ _ _);(first|exact za5 evG rfl|exact qs9 evG rfl))|((with_reducible show OpP _ _ ⟨_,.binOp .sub _ _ _ _,_,_,_,_⟩ _ _ _);(first|exact qfe (op:=.sub) qiv qiv (qz4 _ _ _)|exact qfe (op:=.sub) qiw qiw (qz5 _ _ _)|exact qip evG evG qfv))|((with_reducible show OpP _ _ ⟨_,.binOp .mul _ _ _ _,_,_,_,_⟩ _ _ _);(first|exact qfe (op:=.mul) qiv qiv (zbd _ _ _)|exact qfe (op:=.mul) qiw qiw (zbe _ _ _)|exact qs7 evG evG qfv))|((with_reducible show OpP _ _ ⟨_,.binOp .quo _ _ _ _,_,_,_,_⟩ _ _ _);exact qi3 evG evG (by omega) qfv)|((with_reducible show OpP _ _ ⟨_,.binOp .rem _ _ _ _,_,_,_,_⟩ _ _ _);exact qkb evG evG (by omega) rfl)|((with_reducible show OpP _ _ ⟨_,.binOp .and _ _ _ _,_,_,_,_⟩ _ _ _);(first|exact qea (op:=.and) qiv qiv (by simp) (zct _ _)|exact qea (op:=.and) qiw qiw (by simp) (zcu _ _)))|((with_reducible show OpP _ _ ⟨_,.binOp .or _ _ _ _,_,_,_,_⟩ _ _ _);(first|exact qea (op:=.or) qiv qiv (by simp) (za0 _ _)|exact qea (op:=.or) qiw qiw (by simp) (or_u32 _ _)))|((with_reducible show OpP _ _ ⟨_,.binOp .xor _ _ _ _,_,_,_,_⟩ _ _ _);(first|exact qea (op:=.xor) qiv qiv (by simp) (quu _ _)|exact qea (op:=.xor) qiw qiw (by simp) (qzj _ _)))|((with_reducible show OpP _ _ ⟨_,.binOp .andNot _ _ _ _,_,_,_,_⟩ _ _ _);exact qea (op:=.andNot) qiv qiv (by simp) (qp9 _ _))|((with_reducible show OpP _ _ ⟨_,.binOp _ _ _ _ _,_,_,_,_⟩ _ _ _);exact qea evG evG (by simp) rfl)|((with_reducible show OpP _ _ ⟨_,.binOp .shl _ _ _ _,_,_,_,_⟩ _ _ _);(first|exact qd5 (k:=_) qiv evG (by first|omega|exact qbj _) qca|exact qg3 (k:=_) qiw evG (by first|omega|exact qbj _) qca|exact qpq evG evG (by first|omega|exact qbj _) rfl))|((with_reducible show OpP _ _ ⟨_,.binOp .shr _ _ _ _,_,_,_,_⟩ _ _ _);(first|exact qhi (k:=_) qiv evG (by first|omega|exact qbj _) qca|exact qex (k:=_) qiw evG (by first|omega|exact qbj _) qca|exact qs6 evG evG (by first|omega|exact qbj _) rfl))|((with_reducible show OpP _ _ ⟨_,.unOp .neg _ _,_,_,_,_⟩ _ _ _);exact op_neg evG qfv)|((with_reducible show OpP _ _ ⟨_,.unOp .xor _ _,_,_,_,_⟩ _ _ _);exact qwu evG rfl)|((with_reducible show OpP _ _ ⟨_,.field _ _ _,_,_,_,_⟩ _ _ _);exact qpr evG rfl rfl rfl rfl rfl)|((with_reducible show OpP _ _ ⟨_,.build _ _,_,_,_,_⟩ _ _ _);exact qta rfl rfl rfl rfl partsT rf qbo)|((with_reducible show OpP _ _ ⟨_,.indexAddr _ _ _,_,_,_,_⟩ _ _ _);first|exact qau (j:=_) evG evG rfl rfl rf asT|exact qan evG evG rfl szT offI (by decide))):OpP P c o A L F:=h
theorem s1F {A B:Prop} (f:A→B:=by first|((with_reducible show _→JL _ _ _ _ _ (⟨some _,.alloc _,_,_,_,none⟩ :: _) _ _);exact qzh rfl (qbi rfl qbo rfl))|((with_reducible show _→JL _ _ _ _ _ (⟨some _,.box _ _,_,_,_,none⟩ :: _) _ _);exact qzh rfl (op_box (er rfl) qcy))|((with_reducible show _→JL _ _ _ _ _ (⟨some _,_,_,_,_,none⟩ :: _) _ _);exact qap rfl (by exact opF))|((with_reducible show _→JL _ _ _ _ _ (⟨none,.store _ _ _,_,_,_,none⟩ :: _) _ _);exact qk0 (qav (er rfl) (er rfl) qcy qae qbo rf rf rf))|((with_reducible show _→JL _ _ _ _ _ [] _ _);exact JL_nil)|((with_reducible show _→JC _ _ _ (Code.seq _ _) _ _ _);exact qx3)|((with_reducible show _→JC _ _ _ (Code.region _ _ false) _ _ _);exact zda)|((with_reducible show _→JC _ _ _ (Code.skip) _ _ _);exact zc9)|((with_reducible show _→JC _ _ _ (Code.block _ _) _ _ _);exact JC_block)|((with_reducible show _→JC _ _ _ (Code.exit _) _ _ _);exact JC_exit)|((with_reducible show _→JC _ _ _ (Code.ret) _ _ _);exact JC_ret)|((with_reducible show _→JQ _ _ _ _ (Exit.then _ _) .normal);exact qou)|((with_reducible show _→JQ _ _ _ _ (Exit.then _ _) (.exit _));exact quh)|((with_reducible show _→JQ _ _ _ _ (Exit.then _ _) .ret);exact qv3)|((with_reducible show _→JQ _ _ _ _ (Exit.inBlock _ _) .normal);exact JQ_block)|((with_reducible show _→JQ _ _ _ _ (Exit.inBlock _ _) .ret);exact qui)|((with_reducible show _→JQ _ _ _ _ (Exit.inBlock _ _) (.exit _));(first|exact qsg rfl|exact JQ_hit))|((with_reducible show _→JQ _ _ _ _ (bodyPost _ _ _) .normal);exact JQ_end)|((with_reducible show _→JL _ _ _ _ _ (⟨some _,_,_,_,_,some _⟩ :: _) _ _);first|exact qcq rfl rfl rfl (fun hg=>by (have hg0:=hg;(try simp at hg);exact opG))|exact JL_i rfl rfl rfl (fun hp hg=>by (have hpg:=Bool.and_eq_true_iff.2 ⟨hp,hg⟩;have hg0:=hg;(try simp at hg);exact opG)))|((with_reducible show _→JW _ _ _ _ _ _ _ _ (⟨some _,_,_,_,_,none⟩ :: _) _ _);exact qbc (by exact opF))|((with_reducible show _→JW _ _ _ _ _ _ _ _ (⟨some _,_,_,_,_,some _⟩ :: _) _ _);first|exact qem rfl rfl (fun hg=>by (have hg0:=hg;(try simp at hg);exact opG))|exact JW_i rfl rfl (fun hp hg=>by (have hpg:=Bool.and_eq_true_iff.2 ⟨hp,hg⟩;have hg0:=hg;(try simp at hg);exact opG)))):A→B:=f
theorem s1 {A B:Prop} (h:A) (f:A→B:=by exact s1F):B:=f h
structure Bx (A:Prop):Prop where
 out:A
theorem t2 {A B:Prop} (h:A) (f:Bx A→B:=by intro z;(iterate 2 refine s1 ?_);exact z.out):B:=f ⟨h⟩
theorem t3 {A B:Prop} (h:A) (f:Bx A→B:=by intro z;(iterate 3 refine s1 ?_);exact z.out):B:=f ⟨h⟩
theorem t4 {A B:Prop} (h:A) (f:Bx A→B:=by intro z;(iterate 4 refine s1 ?_);exact z.out):B:=f ⟨h⟩
theorem t5 {A B:Prop} (h:A) (f:Bx A→B:=by intro z;(iterate 5 refine s1 ?_);exact z.out):B:=f ⟨h⟩
theorem t6 {A B:Prop} (h:A) (f:Bx A→B:=by intro z;(iterate 6 refine s1 ?_);exact z.out):B:=f ⟨h⟩
theorem t7 {A B:Prop} (h:A) (f:Bx A→B:=by intro z;(iterate 7 refine s1 ?_);exact z.out):B:=f ⟨h⟩
theorem t8 {A B:Prop} (h:A) (f:Bx A→B:=by intro z;(iterate 8 refine s1 ?_);exact z.out):B:=f ⟨h⟩
theorem t9 {A B:Prop} (h:A) (f:Bx A→B:=by intro z;(iterate 9 refine s1 ?_);exact z.out):B:=f ⟨h⟩
theorem t10 {A B:Prop} (h:A) (f:Bx A→B:=by intro z;(iterate 10 refine s1 ?_);exact z.out):B:=f ⟨h⟩
theorem t11 {A B:Prop} (h:A) (f:Bx A→B:=by intro z;(iterate 11 refine s1 ?_);exact z.out):B:=f ⟨h⟩
theorem t12 {A B:Prop} (h:A) (f:Bx A→B:=by intro z;(iterate 12 refine s1 ?_);exact z.out):B:=f ⟨h⟩
theorem t13 {A B:Prop} (h:A) (f:Bx A→B:=by intro z;(iterate 13 refine s1 ?_);exact z.out):B:=f ⟨h⟩
theorem t14 {A B:Prop} (h:A) (f:Bx A→B:=by intro z;(iterate 14 refine s1 ?_);exact z.out):B:=f ⟨h⟩
theorem t15 {A B:Prop} (h:A) (f:Bx A→B:=by intro z;(iterate 15 refine s1 ?_);exact z.out):B:=f ⟨h⟩
theorem t16 {A B:Prop} (h:A) (f:Bx A→B:=by intro z;(iterate 16 refine s1 ?_);exact z.out):B:=f ⟨h⟩
theorem t17 {A B:Prop} (h:A) (f:Bx A→B:=by intro z;(iterate 17 refine s1 ?_);exact z.out):B:=f ⟨h⟩
theorem t18 {A B:Prop} (h:A) (f:Bx A→B:=by intro z;(iterate 18 refine s1 ?_);exact z.out):B:=f ⟨h⟩
theorem t19 {A B:Prop} (h:A) (f:Bx A→B:=by intro z;(iterate 19 refine s1 ?_);exact z.out):B:=f ⟨h⟩
theorem t20 {A B:Prop} (h:A) (f:Bx A→B:=by intro z;(iterate 20 refine s1 ?_);exact z.out):B:=f ⟨h⟩
theorem t21 {A B:Prop} (h:A) (f:Bx A→B:=by intro z;(iterate 21 refine s1 ?_);exact z.out):B:=f ⟨h⟩
theorem t22 {A B:Prop} (h:A) (f:Bx A→B:=by intro z;(iterate 22 refine s1 ?_);exact z.out):B:=f ⟨h⟩
theorem t23 {A B:Prop} (h:A) (f:Bx A→B:=by intro z;(iterate 23 refine s1 ?_);exact z.out):B:=f ⟨h⟩
theorem t24 {A B:Prop} (h:A) (f:Bx A→B:=by intro z;(iterate 24 refine s1 ?_);exact z.out):B:=f ⟨h⟩
theorem t25 {A B:Prop} (h:A) (f:Bx A→B:=by intro z;(iterate 25 refine s1 ?_);exact z.out):B:=f ⟨h⟩
theorem t28 {A B:Prop} (h:A) (f:Bx A→B:=by intro z;(iterate 28 refine s1 ?_);exact z.out):B:=f ⟨h⟩
theorem t29 {A B:Prop} (h:A) (f:Bx A→B:=by intro z;(iterate 29 refine s1 ?_);exact z.out):B:=f ⟨h⟩
theorem t30 {A B:Prop} (h:A) (f:Bx A→B:=by intro z;(iterate 30 refine s1 ?_);exact z.out):B:=f ⟨h⟩
theorem t31 {A B:Prop} (h:A) (f:Bx A→B:=by intro z;(iterate 31 refine s1 ?_);exact z.out):B:=f ⟨h⟩
theorem t32 {A B:Prop} (h:A) (f:Bx A→B:=by intro z;(iterate 32 refine s1 ?_);exact z.out):B:=f ⟨h⟩
theorem t33 {A B:Prop} (h:A) (f:Bx A→B:=by intro z;(iterate 33 refine s1 ?_);exact z.out):B:=f ⟨h⟩
theorem t35 {A B:Prop} (h:A) (f:Bx A→B:=by intro z;(iterate 35 refine s1 ?_);exact z.out):B:=f ⟨h⟩
theorem t36 {A B:Prop} (h:A) (f:Bx A→B:=by intro z;(iterate 36 refine s1 ?_);exact z.out):B:=f ⟨h⟩
theorem t37 {A B:Prop} (h:A) (f:Bx A→B:=by intro z;(iterate 37 refine s1 ?_);exact z.out):B:=f ⟨h⟩
theorem t40 {A B:Prop} (h:A) (f:Bx A→B:=by intro z;(iterate 40 refine s1 ?_);exact z.out):B:=f ⟨h⟩
theorem cN {P:Program} {c:Ctx} {N:Nat} {E:Env} {L:List Item} {Q:Exit→Go.Act→World→Prop} {x:Operand} {y z:Code} {b:Bool} (ht:b=true→JC P c N y E L Q) (hf:b=false→JC P c N z E L Q) (hx:evA (look E) x=some (Is (.bool b)):=by exact rfl):JC P c N (Code.cond x y z) E L Q:=zdb (Ev.rfl' hx) ht hf
theorem eT {P:Program} {E:Env} {L:List Item} {rs:List ResultVar} {Bs:List VP} (h:qqe P E L rs Bs:=by repeat (first|exact trivial|refine ⟨⟨_,_,_,_,rfl,qbp,rfl,.inr ⟨rfl,_,rfl,rfl,subT⟩⟩,?_⟩|refine ⟨⟨_,rfl,subT⟩,?_⟩)):qqe P E L rs Bs:=h
section
variable {P:Program} {c:Ctx} {A:Nat→Option VP} {L:List Item} {d:Option Tmp} {ty:TypeId} {pos:String} {af:Array Edge} {g:Option (Nat×Bool)}
@[reducible] def FnK (P:Program) (f:FuncId) (G:Item) (As:List VP) (R:VP):Prop:=Fn P f As [G] (fun _:Unit=>R) (fun _=>[])
theorem FnK.run {v:Value} {B:VP} {f:FuncId} {As:List VP} {r:Value} (h:FnK P f (fact v B) As (Is r)) (w:World) (vs:List Value) (hB:B.ok (phi w) v) (hv:Alls (phi w) As vs):Calls P f vs.toArray w fun e w'=>e = .returned r∧Below w.heap.size w w':=by
 refine (h (phi w) w vs hv ⟨fun _ _ _ h=>h,fun it hi=>?_,List.pairwise_singleton _ _⟩).mono ?_
 ·rw [List.mem_singleton] at hi;subst hi;exact ⟨hB,fun b hb=>by cases hb⟩
 ·rintro e w' ⟨i,v,φ',rfl,h1,h2⟩
  have h1':v=r:=h1
  subst h1'
  exact ⟨rfl,Kpt.below (by simpa [qb4,fact] using h2.kept)⟩
end
theorem qtp (l:Int):FnP Tryz.prog 94 [Is (.int .i64 l)] (Is (.bool (qob l))):=by
 refine FnP.enter func94 ntmps94 rfl rfl ?_
 intro c hX
 refine t17 ?_
 refine qa4 results94 rfl () (SubL.eq ?_) (List.nil_sublist _)
 rfl
theorem qj1 (l:Int):FnP Tryz.prog 97 [Is (.int .i64 l)] (Is (.bool (qob l))):=by
 refine FnP.enter func97 ntmps97 rfl rfl ?_
 intro c hX
 refine t17 ?_
 refine qa4 results97 rfl () (SubL.eq ?_) (List.nil_sublist _)
 rfl
theorem qos (p:Pt):FnP Tryz.prog 68 [qm6 p] (Is (.bool (qdz p))):=by
 refine FnP.enter func68 ntmps68 rfl rfl ?_
 intro c hX
 refine t3 ?_
 intro i1
 refine t7 ?_
 refine qap rfl (qac call94 (qtp _) ⟨evS,trivial⟩) ?_
 refine t14 ?_
 refine qa4 results68 rfl () (SubL.eq ?_) (List.nil_sublist _)
 rfl
theorem qb8 (p:Pt):FnP Tryz.prog 70 [qm6 p] (Is (.bool (qdz p))):=by
 refine FnP.enter func70 ntmps70 rfl rfl ?_
 intro c hX
 refine t3 ?_
 intro i1
 refine t7 ?_
 refine qap rfl (qac call97 (qj1 _) ⟨evS,trivial⟩) ?_
 refine t14 ?_
 refine qa4 results70 rfl () (SubL.eq ?_) (List.nil_sublist _)
 rfl
theorem Pack_ok (p:Pt):FnP Tryz.prog 74 [qm6 p] (Is (.int .u32 (UV (qg2 p)))):=by
 refine FnP.enter func74 ntmps74 rfl rfl ?_
 intro c hX
 refine t3 ?_
 intro i1
 refine t7 ?_
 refine qap rfl (qac call68 (qos _) ⟨evS,trivial⟩) ?_
 refine t3 ?_
 refine cN ?_ ?_ <;> intro h1
 ·refine t7 ?_
  refine qa4 results74 rfl () (SubL.eq ?_) (List.nil_sublist _)
  rw [zav (by simpa using h1)];rfl
 refine t7 ?_
 refine qap rfl (by exact qg3 (k:=8) ql1 (er rfl) (by omega) qca) ?_
 refine t8 ?_
 refine qa4 results74 rfl () (SubL.eq ?_) (List.nil_sublist _)
 rw [← pack_or (by simpa using h1)]
theorem qfr (p:Pt):FnP Tryz.prog 82 [qm6 p] (Is (.int .u32 (UV (qg2 p)))):=by
 refine FnP.enter func82 ntmps82 rfl rfl ?_
 intro c hX
 refine t3 ?_
 intro i1
 refine t7 ?_
 refine qap rfl (qac call70 (qb8 _) ⟨evS,trivial⟩) ?_
 refine t3 ?_
 refine cN ?_ ?_ <;> intro h1
 ·refine t7 ?_
  refine qa4 results82 rfl () (SubL.eq ?_) (List.nil_sublist _)
  rw [zav (by simpa using h1)];rfl
 refine t16 ?_
 refine qa4 results82 rfl () (SubL.eq ?_) (List.nil_sublist _)
 rw [← pack_add (by simpa using h1)];rfl
theorem zcz (x:BitVec 32):FnP Tryz.prog 89 [Is (.int .u32 (UV x))] (qm6 (qc1 x)):=by
 refine FnP.enter func89 ntmps89 rfl rfl ?_
 intro c hX
 refine t3 ?_
 intro i2
 refine t8 ?_
 refine qap rfl (by exact qex (k:=8) ql1 (er rfl) (by omega) qca) ?_
 refine t6 ?_
 rw [qux]
 exact qaq (Bs:=[qm6 ⟨UV (x&&&BitVec.ofInt 32 255),UV (x>>>8)⟩]) results89 eT () SubL.rfl' (List.nil_sublist _)
theorem qfg (x:BitVec 32):FnP Tryz.prog 103 [Is (.int .u32 (UV x))] (qm6 (qc1 x)):=by
 refine FnP.enter func103 ntmps103 rfl rfl ?_
 intro c hX
 refine t3 ?_
 intro i2
 refine t15 ?_
 rw [qx7]
 exact qaq (Bs:=[qm6 ⟨IntKind.i64.wrap ((UV x).tmod 256),IntKind.i64.wrap (IntKind.u32.wrap ((UV x).tdiv 256))⟩]) results103 eT () SubL.rfl' (List.nil_sublist _)
end Go.Proofs.YtmgoplaamlignaaGreat
