/- Texts laid together: walks of functions, what they compute, and plain laws of it. Own work. -/
import Derived.Test.YtmgoplaamlignaaGreatK3
import Derived.Test.YtmgoplaamlignaaGreatK1
namespace Go.Proofs.YtmgoplaamlignaaGreat
open Go.RowKit Tryz
set_option linter.unusedVariables false
set_option linter.unusedSimpArgs false
set_option maxRecDepth 100000
set_option maxHeartbeats 4000000
section
variable {P:Program} {c:Ctx} {A:Nat→Option VP} {L:List Item} {d:Option Tmp} {ty:TypeId} {pos:String} {af:Array Edge} {g:Option (Nat×Bool)}
theorem HP.idle {φ:Fz} {w:World} (h:HP c φ L w):HP ⟨w,φ,[],[]⟩ φ [] w:=HP.start (L:=[]) ⟨h.mem.base,by simp,List.Pairwise.nil⟩
theorem opp {o:Oper} {F:VP} (h:∀ (φ:Fz) (a:Act) (w:World),HP c φ L w→(∀ x,x∈o.op.operands→∀ B,Ev A L x B→B.ok φ (a.eval x))→∃ v,(execOp a.eval o).run P w = .ok (.value v) w∧F.ok φ v):OpP P c o A L F:=by
 intro φ a w K Q hm he hk
 obtain ⟨v,h1,h2⟩:=h φ a w hm he
 unfold Oper.wp
 rw [h1]
 exact hk φ v w hm.idle h2
theorem opq {o:Oper} {F:VP} (h:∀ (φ:Fz) (a:Act) (w:World),HP c φ L w→(∀ x,x∈o.op.operands→∀ B,Ev A L x B→B.ok φ (a.eval x))→∃ v φ' w',(execOp a.eval o).run P w = .ok (.value v) w'∧HP ⟨w,φ,[],[]⟩ φ' [] w'∧F.ok φ' v):OpP P c o A L F:=by
 intro φ a w K Q hm he hk
 obtain ⟨v,φ',w',h1,h2,h3⟩:=h φ a w hm he
 unfold Oper.wp
 rw [h1]
 exact hk φ' v w' h2 h3
theorem qay {x:Operand} {D:VP} (h:evA A x=some D):OpP P c ⟨d,.move x,ty,pos,af,g⟩ A L D:=
 opp fun φ a w hm he=>⟨_,rfl,he x (by simp [Op.operands]) D (.rfl' h)⟩
theorem qeb {x:Operand} {D:VP} (h:evA A x=some D):OpP P c ⟨d,.assign x,ty,pos,af,g⟩ A L D:=
 opp fun φ a w hm he=>⟨_,rfl,he x (by simp [Op.operands]) D (.rfl' h)⟩
theorem qo5 {x y:Operand} {p q:Bool} {Y:VP} (hx:Ev A L x (Is (.bool p))) (hy:evA A y=some Y) (hs:p=false→SubL L Y (Is (.bool q))):OpP P c ⟨d,.pick x (.const (.bool true)) y,ty,pos,af,g⟩ A L (Is (.bool (p||q))):=
 opp fun φ a w hm he=>by
  have h1:a.eval x = .bool p:=he x (by simp [Op.operands]) _ hx
  refine ⟨.bool (p||q),?_,rfl⟩
  cases p with
  | true =>
   have hc:a.eval (.const (.bool true)) = .bool true:=rfl
   simp [execOp,h1,hc,asBool]
  | false =>
   have h2:a.eval y = .bool q:=he y (by simp [Op.operands]) _ (.sub hy (hs rfl))
   simp [execOp,h1,h2,asBool]
theorem op_and {x y:Operand} {p q:Bool} {Y:VP} (hx:Ev A L x (Is (.bool p))) (hy:evA A y=some Y) (hs:p=true→SubL L Y (Is (.bool q))):OpP P c ⟨d,.pick x y (.const (.bool false)),ty,pos,af,g⟩ A L (Is (.bool (p&&q))):=
 opp fun φ a w hm he=>by
  have h1:a.eval x = .bool p:=he x (by simp [Op.operands]) _ hx
  refine ⟨.bool (p&&q),?_,rfl⟩
  cases p with
  | false =>
   have hc:a.eval (.const (.bool false)) = .bool false:=rfl
   simp [execOp,h1,hc,asBool]
  | true =>
   have h2:a.eval y = .bool q:=he y (by simp [Op.operands]) _ (.sub hy (hs rfl))
   simp [execOp,h1,h2,asBool]
theorem qg5 {op:BinOp} {t u:TypeId} {x y:Operand} {k j:IntKind} {n m:Int} {r:Value} (hx:Ev A L x (Is (.int k n))) (hy:Ev A L y (Is (.int j m))) (hr:∀ w,(binOp op t (.int k n) (.int j m)).run P w = .ok r w) :
  OpP P c ⟨d,.binOp op t x y u,ty,pos,af,g⟩ A L (Is r):=
 opp fun φ a w hm he=>by
  have h1:a.eval x = .int k n:=he x (by simp [Op.operands]) _ hx
  have h2:a.eval y = .int j m:=he y (by simp [Op.operands]) _ hy
  refine ⟨r,?_,rfl⟩
  have h3:(eqGuard op t x y (.int k n) (.int j m)).run P w = .ok () w:=by
   unfold eqGuard
   cases op <;> rfl
  simp only [execOp,h1,h2,Sem.run_bind,h3,Result.andThen_ok,hr w,Sem.run_pure]
section ints
variable {t u:TypeId} {x y:Operand} {k:IntKind} {n m r:Int}
theorem qft (hx:Ev A L x (Is (.int k n))) (hy:Ev A L y (Is (.int k m))) (hr:k.wrap (n+m)=r):OpP P c ⟨d,.binOp .add t x y u,ty,pos,af,g⟩ A L (Is (.int k r)):=
 qg5 hx hy fun w=>by simp [binOp,Op.intArith,hr]
theorem qip (hx:Ev A L x (Is (.int k n))) (hy:Ev A L y (Is (.int k m))) (hr:k.wrap (n-m)=r):OpP P c ⟨d,.binOp .sub t x y u,ty,pos,af,g⟩ A L (Is (.int k r)):=
 qg5 hx hy fun w=>by simp [binOp,Op.intArith,hr]
theorem qs7 (hx:Ev A L x (Is (.int k n))) (hy:Ev A L y (Is (.int k m))) (hr:k.wrap (n*m)=r):OpP P c ⟨d,.binOp .mul t x y u,ty,pos,af,g⟩ A L (Is (.int k r)):=
 qg5 hx hy fun w=>by simp [binOp,Op.intArith,hr]
theorem qi3 (hx:Ev A L x (Is (.int k n))) (hy:Ev A L y (Is (.int k m))) (h0:m≠0) (hr:k.wrap (n.tdiv m)=r):OpP P c ⟨d,.binOp .quo t x y u,ty,pos,af,g⟩ A L (Is (.int k r)):=
 qg5 hx hy fun w=>by simp [binOp,Op.intDiv,h0,hr]
theorem qkb (hx:Ev A L x (Is (.int k n))) (hy:Ev A L y (Is (.int k m))) (h0:m≠0) (hr:n.tmod m=r):OpP P c ⟨d,.binOp .rem t x y u,ty,pos,af,g⟩ A L (Is (.int k r)):=
 qg5 hx hy fun w=>by simp [binOp,Op.intDiv,h0,hr]
theorem op_lss (hx:Ev A L x (Is (.int k n))) (hy:Ev A L y (Is (.int k m))):OpP P c ⟨d,.binOp .lss t x y u,ty,pos,af,g⟩ A L (Is (.bool (decide (n<m)))):=
 qg5 hx hy fun w=>by simp [binOp,Op.intCmp]
theorem op_leq (hx:Ev A L x (Is (.int k n))) (hy:Ev A L y (Is (.int k m))):OpP P c ⟨d,.binOp .leq t x y u,ty,pos,af,g⟩ A L (Is (.bool (decide (n≤m)))):=
 qg5 hx hy fun w=>by simp [binOp,Op.intCmp]
theorem op_gtr (hx:Ev A L x (Is (.int k n))) (hy:Ev A L y (Is (.int k m))):OpP P c ⟨d,.binOp .gtr t x y u,ty,pos,af,g⟩ A L (Is (.bool (decide (n>m)))):=
 qg5 hx hy fun w=>by simp [binOp,Op.intCmp]
theorem op_geq (hx:Ev A L x (Is (.int k n))) (hy:Ev A L y (Is (.int k m))):OpP P c ⟨d,.binOp .geq t x y u,ty,pos,af,g⟩ A L (Is (.bool (decide (n≥m)))):=
 qg5 hx hy fun w=>by simp [binOp,Op.intCmp]
theorem op_eql (hx:Ev A L x (Is (.int k n))) (hy:Ev A L y (Is (.int k m))):OpP P c ⟨d,.binOp .eql t x y u,ty,pos,af,g⟩ A L (Is (.bool (n==m))):=
 qg5 hx hy fun w=>by simp [binOp,Op.intCmp]
theorem op_neq (hx:Ev A L x (Is (.int k n))) (hy:Ev A L y (Is (.int k m))):OpP P c ⟨d,.binOp .neq t x y u,ty,pos,af,g⟩ A L (Is (.bool (n != m))):=
 qg5 hx hy fun w=>by simp [binOp,Op.intCmp]
theorem qea {op:BinOp} {v:Value} (hx:Ev A L x (Is (.int k n))) (hy:Ev A L y (Is (.int k m))) (hop:op = .and∨op = .or∨op = .xor∨op = .andNot) (hr:Op.intBits op k n m=pure v):OpP P c ⟨d,.binOp op t x y u,ty,pos,af,g⟩ A L (Is v):=
 qg5 hx hy fun w=>by
  rcases hop with rfl|rfl|rfl|rfl <;> simp [binOp,hr]
theorem qpq {j:IntKind} (hx:Ev A L x (Is (.int k n))) (hy:Ev A L y (Is (.int j m))) (h0:0≤m) (hr:k.wrap (n*2 ^ (min m.toNat k.bits))=r):OpP P c ⟨d,.binOp .shl t x y u,ty,pos,af,g⟩ A L (Is (.int k r)):=
 qg5 hx hy fun w=>by
  have:¬ m<0:=by omega
  simp [binOp,Op.shift,this,hr]
theorem qs6 {j:IntKind} (hx:Ev A L x (Is (.int k n))) (hy:Ev A L y (Is (.int j m))) (h0:0≤m) (hr:n.fdiv (2 ^ (min m.toNat k.bits))=r):OpP P c ⟨d,.binOp .shr t x y u,ty,pos,af,g⟩ A L (Is (.int k r)):=
 qg5 hx hy fun w=>by
  have:¬ m<0:=by omega
  simp [binOp,Op.shift,this,hr]
theorem op_not {p:Bool} (hx:Ev A L x (Is (.bool p))):OpP P c ⟨d,.unOp .not t x,ty,pos,af,g⟩ A L (Is (.bool (!p))):=
 opp fun φ a w hm he=>by
  have h1:a.eval x = .bool p:=he x (by simp [Op.operands]) _ hx
  exact ⟨_,by simp [execOp,h1,Op.unary],rfl⟩
theorem op_neg (hx:Ev A L x (Is (.int k n))) (hr:k.wrap (0-n)=r):OpP P c ⟨d,.unOp .neg t x,ty,pos,af,g⟩ A L (Is (.int k r)):=
 opp fun φ a w hm he=>by
  have h1:a.eval x = .int k n:=he x (by simp [Op.operands]) _ hx
  exact ⟨.int k r,by rw [← hr];simp [execOp,h1,Op.unary,Op.intArith],rfl⟩
theorem qwu {v:Value} (hx:Ev A L x (Is (.int k n))) (hr:Op.intBits .xor k (if k.signed then -1 else k.max) n=pure v):OpP P c ⟨d,.unOp .xor t x,ty,pos,af,g⟩ A L (Is v):=
 opp fun φ a w hm he=>by
  have h1:a.eval x = .int k n:=he x (by simp [Op.operands]) _ hx
  exact ⟨v,by simp [execOp,h1,Op.unary,hr],rfl⟩
theorem qfd {src dst:TypeId} {j:IntKind} {s0:TypeDesc} (hx:Ev A L x (Is (.int k n))) (hs:P.underlying src=some s0) (hd:P.underlying dst=some (.int j)) (hr:j.wrap n=r):OpP P c ⟨d,.convert src dst x,ty,pos,af,g⟩ A L (Is (.int j r)):=
 opp fun φ a w hm he=>by
  have h1:a.eval x = .int k n:=he x (by simp [Op.operands]) _ hx
  refine ⟨.int j r,?_,rfl⟩
  rw [← hr]
  simp [execOp,h1,convert,run_underlying hs,run_underlying hd,Conv.intToInt]
end ints
theorem qcg {s:Sem Value} {v:Value} {w w':World} (h:s.run P w = .ok v w'):(do pure (Next.value (← s)):Sem Next).run P w = .ok (.value v) w':=by
 simp only [Sem.run_bind,h,Result.andThen_ok,Sem.run_pure]
theorem qqq {t:TypeId} {p q:Bool} (hu:P.underlying t=some .bool) (n:Nat) (w:World):(Op.equalIn (n+1) t (.bool p) (.bool q)).run P w = .ok (p==q) w:=by
 simp only [Op.equalIn,Sem.run_bind,run_underlying hu,Result.andThen_ok,Sem.run_pure]
theorem qnv {t:TypeId} {p q:Bool} (hu:P.underlying t=some .bool) (w:World):(Op.equal t (.bool p) (.bool q)).run P w = .ok (p==q) w:=qqq hu 9999 w
theorem op_beq {t u:TypeId} {x y:Operand} {p q:Bool} (hu:P.underlying t=some .bool) (hx:Ev A L x (Is (.bool p))) (hy:Ev A L y (Is (.bool q))):OpP P c ⟨d,.binOp .eql t x y u,ty,pos,af,g⟩ A L (Is (.bool (p==q))):=
 opp fun φ a w hm he=>by
  have h1:a.eval x = .bool p:=he x (by simp [Op.operands]) _ hx
  have h2:a.eval y = .bool q:=he y (by simp [Op.operands]) _ hy
  have h3:(eqGuard .eql t x y (.bool p) (.bool q)).run P w = .ok () w:=rfl
  have h4:(binOp .eql t (.bool p) (.bool q)).run P w = .ok (.bool (p==q)) w:=by
   simp only [binOp,Sem.run_bind,qnv hu,Result.andThen_ok,Sem.run_pure]
  exact ⟨_,by simp only [execOp,h1,h2,Sem.run_bind,h3,Result.andThen_ok,h4,Sem.run_pure],rfl⟩
theorem op_bne {t u:TypeId} {x y:Operand} {p q:Bool} (hu:P.underlying t=some .bool) (hx:Ev A L x (Is (.bool p))) (hy:Ev A L y (Is (.bool q))):OpP P c ⟨d,.binOp .neq t x y u,ty,pos,af,g⟩ A L (Is (.bool (p != q))):=
 opp fun φ a w hm he=>by
  have h1:a.eval x = .bool p:=he x (by simp [Op.operands]) _ hx
  have h2:a.eval y = .bool q:=he y (by simp [Op.operands]) _ hy
  have h3:(eqGuard .neq t x y (.bool p) (.bool q)).run P w = .ok () w:=rfl
  have h4:(binOp .neq t (.bool p) (.bool q)).run P w = .ok (.bool (p != q)) w:=by
   simp only [binOp,Sem.run_bind,qnv hu,Result.andThen_ok,Sem.run_pure];rfl
  exact ⟨_,by simp only [execOp,h1,h2,Sem.run_bind,h3,Result.andThen_ok,h4,Sem.run_pure],rfl⟩
theorem qxx {φ:Fz} {As:List VP} {vs:List Value} (h:Alls φ As vs) {i:Nat} {B:VP} (hi:As[i]?=some B):∃ v,vs.toArray[i]?=some v∧B.ok φ v:=by
 obtain ⟨v,h1,h2⟩:=h.get hi
 exact ⟨v,by simpa using h1,h2⟩
theorem qjv {x:Operand} {i:Nat} {As:List VP} {B:VP} (hx:Ev A L x (qbv As)) (hi:As[i]?=some B):OpP P c ⟨d,.extract x i,ty,pos,af,g⟩ A L B:=
 opp fun φ a w hm he=>by
  obtain ⟨vs,h1,h2⟩:(qbv As).ok φ (a.eval x):=he x (by simp [Op.operands]) _ hx
  obtain ⟨v,h3,h4⟩:=qxx h2 hi
  exact ⟨v,by simp only [execOp,h1,Instr.extract,h3];rfl,h4⟩
theorem qg4 {x:Operand} {p:Addr} (hx:Ev A L x (Is (.pointer (some p)))):OpP P c ⟨d,.nilCheck x,ty,pos,af,g⟩ A L (Is (.pointer (some p))):=
 opp fun φ a w hm he=>by
  have h1:a.eval x = .pointer (some p):=he x (by simp [Op.operands]) _ hx
  exact ⟨_,by simp only [execOp,h1];rfl,rfl⟩
theorem qn1 {x:Operand} {As:List VP} (hx:Ev A L x (qdo As)):OpP P c ⟨d,.nilCheck x,ty,pos,af,g⟩ A L (qdo As):=
 opp fun φ a w hm he=>by
  have h0:(qdo As).ok φ (a.eval x):=he x (by simp [Op.operands]) _ hx
  obtain ⟨b,o,h1,h2⟩:=h0
  exact ⟨_,by simp only [execOp,h1];rfl,⟨b,o,rfl,h2⟩⟩
theorem qby {t:TypeId} {n:Nat} (h:(P.info? t).map (·.size)=some n) (w:World):(sizeOf t).run P w = .ok n w:=by
 obtain ⟨i,h1,h2⟩:=Option.map_eq_some_iff.1 h
 simp [sizeOf,typeInfo,h1,h2]
theorem qnu {s:TypeId} {fs:Array Field} {i n:Nat} {f:Field} (hu:P.underlying s=some (.struct fs)) (hf:fs[i]?=some f) (hn:(P.info? f.type).map (·.size)=some (n+1)) (p:Addr) (w:World) :
  (Instr.fieldAt s (.pointer (some p)) i).run P w = .ok (.pointer (some (p.add f.offset))) w:=by
 simp [Instr.fieldAt,run_underlying hu,hf,Instr.sureAddr,fieldPlace,qby hn]
theorem qdm (b i k:Nat):(⟨b,i,none⟩:Addr).add k=⟨b,i+k,none⟩:=Addr.add_lit b i k
theorem qbf {s:TypeId} {x:Operand} {i n b o k:Nat} {fs:Array Field} {f:Field} (hx:Ev A L x (Is (.pointer (some ⟨b,o,none⟩)))) (hu:P.underlying s=some (.struct fs)) (hf:fs[i]?=some f) (hn:(P.info? f.type).map (·.size)=some (n+1)) (hk:f.offset=k) :
  OpP P c ⟨d,.fieldAddr s x i,ty,pos,af,g⟩ A L (Is (.pointer (some ⟨b,o+k,none⟩))):=by
 subst hk;exact
 opp fun φ a w hm he=>by
  have h1:a.eval x = .pointer (some ⟨b,o,none⟩):=he x (by simp [Op.operands]) _ hx
  exact ⟨_,by simp only [execOp,h1,Sem.run_bind,qnu hu hf hn,Result.andThen_ok,Sem.run_pure,qdm],rfl⟩
theorem RefAt.drop {φ:Fz} {b o:Nat} {As:List VP} (h:RefAt φ b o As) (k:Nat):RefAt φ b (o+k) (As.drop k):=fun j B hj=>by
 rw [List.getElem?_drop] at hj
 obtain ⟨u,h1,h2⟩:=h _ B hj
 exact ⟨u,by rw [Nat.add_assoc];exact h1,h2⟩
theorem qvf {s:TypeId} {x:Operand} {i n k:Nat} {As:List VP} {fs:Array Field} {f:Field} (hx:Ev A L x (qdo As)) (hu:P.underlying s=some (.struct fs)) (hf:fs[i]?=some f) (hn:(P.info? f.type).map (·.size)=some (n+1)) (hk:f.offset=k) :
  OpP P c ⟨d,.fieldAddr s x i,ty,pos,af,g⟩ A L (qdo (As.drop k)):=by
 subst hk;exact
 opp fun φ a w hm he=>by
  obtain ⟨b,o,h1,h2⟩:(qdo As).ok φ (a.eval x):=he x (by simp [Op.operands]) _ hx
  exact ⟨.pointer (some ⟨b,o+f.offset,none⟩),by simp only [execOp,h1,Sem.run_bind,qnu hu hf hn,Result.andThen_ok,Sem.run_pure,qdm],⟨b,_,rfl,h2.drop _⟩⟩
def qr4:TypeDesc→Bool
 | .struct _=>true
 | .array _ _=>true
 | _=>false
theorem qfn {t:TypeId} {D:TypeDesc} (h:P.underlying t=some D) (w:World):(isAgg t).run P w = .ok (qr4 D) w:=by
 simp only [isAgg,Sem.run_bind,run_underlying h,Result.andThen_ok]
 cases D <;> rfl
theorem qsy {w:World} {p:Addr} {v:Value} (h:w.cell? p=some v):(load p).run P w = .ok v w:=by
 simp [load,Sem.run,h]
theorem qht {w:World} {b o:Nat}:∀ (vs:List Value) (i:Nat) (acc:Array Value),(∀ j v,vs[j]?=some v→w.cell? ⟨b,o+(i+j),none⟩=some v)→(loadCellsFrom ⟨b,o,none⟩ i vs.length acc).run P w = .ok (acc++vs.toArray) w
 | [],i,acc,_=>by simp [loadCellsFrom]
 | v :: vs,i,acc,h=>by
  have h0:w.cell? ((⟨b,o,none⟩:Addr).add i)=some v:=by rw [qdm];exact h 0 v rfl
  have ih:=qht (b:=b) (o:=o) vs (i+1) (acc.push v) (fun j u hj=>by rw [show i+1+j=i+(j+1) by omega];exact h (j+1) u (by simpa using hj))
  simp only [List.length_cons,loadCellsFrom,Sem.run_bind,qsy h0,Result.andThen_ok,ih]
  simp
theorem qid {t:TypeId} {D:TypeDesc} {n:Nat} {w:World} {b o:Nat} {vs:List Value} (hu:P.underlying t=some D) (hD:qr4 D=true) (hn:(P.info? t).map (·.size)=some n) (hl:vs.length=n) (h:∀ j v,vs[j]?=some v→w.cell? ⟨b,o+j,none⟩=some v) :
  (loadVar t ⟨b,o,none⟩).run P w = .ok (.agg vs.toArray) w:=by
 subst hl
 simp only [loadVar,Sem.run_bind,qfn hu,Result.andThen_ok,hD,if_true,qby hn,loadCells]
 rw [qht vs 0 #[] (fun j v hj=>by rw [Nat.zero_add];exact h j v hj)]
 simp
theorem qic {t:TypeId} {D:TypeDesc} {w:World} {p:Addr} {v:Value} (hu:P.underlying t=some D) (hD:qr4 D=false) (h:w.cell? p=some v):(loadVar t p).run P w = .ok v w:=by
 simp only [loadVar,Sem.run_bind,qfn hu,Result.andThen_ok,hD,Bool.false_eq_true,if_false]
 exact qsy h
theorem qbw {t:TypeId} {x:Operand} {As:List VP} {B:VP} {D:TypeDesc} (hx:Ev A L x (qdo As)) (hu:P.underlying t=some D) (hD:qr4 D=false) (h0:As[0]?=some B):OpP P c ⟨d,.load t x,ty,pos,af,g⟩ A L B:=
 opp fun φ a w hm he=>by
  obtain ⟨b,o,h1,h2⟩:(qdo As).ok φ (a.eval x):=he x (by simp [Op.operands]) _ hx
  obtain ⟨u,h3,h4,_⟩:=h2 0 B h0
  have h5:=hm.mem.base b _ u h3
  exact ⟨u,by simp only [execOp,h1];exact qcg (qic hu hD h5),h4⟩
theorem qhv {φ:Fz} {b:Nat}:∀ {As:List VP} {o:Nat},RefAt φ b o As→∃ vs,Alls φ As vs∧vs.length=As.length∧ones vs∧∀ j v,vs[j]?=some v→φ b (o+j)=some v
 | [],o,_=>⟨[],trivial,rfl,qf3,fun j v h=>by simp at h⟩
 | B :: As,o,h=>by
  obtain ⟨u,h1,h2,hu⟩:=h 0 B rfl
  obtain ⟨vs,h3,h4,h6,h5⟩:=qhv (As:=As) (o:=o+1) fun j D hj=>by
   obtain ⟨u,e1,e2⟩:=h (j+1) D (by simpa using hj)
   exact ⟨u,by rw [show o+1+j=o+(j+1) by omega];exact e1,e2⟩
  refine ⟨u :: vs,⟨h2,h3⟩,by simp [h4],qi5 hu h6,fun j v hj=>?_⟩
  cases j with
  | zero=>simp at hj;subst hj;exact h1
  | succ j=>rw [show o+(j+1)=o+1+j by omega];exact h5 j v (by simpa using hj)
theorem qvd {t:TypeId} {x:Operand} {As:List VP} {n:Nat} {D:TypeDesc} (hx:Ev A L x (qdo As)) (hu:P.underlying t=some D) (hD:qr4 D=true) (hn:(P.info? t).map (·.size)=some n) (hl:Nat.ble n As.length=true):OpP P c ⟨d,.load t x,ty,pos,af,g⟩ A L (IsAgg (As.take n)):=
 opp fun φ a w hm he=>by
  obtain ⟨b,o,h1,h2⟩:(qdo As).ok φ (a.eval x):=he x (by simp [Op.operands]) _ hx
  obtain ⟨vs,h3,h4,h7,h5⟩:=qhv h2
  have hn':=Nat.le_of_ble_eq_true hl
  have h6:=qid (w:=w) (b:=b) (o:=o) (vs:=vs.take n) hu hD hn (by rw [List.length_take];omega) fun j v hj=>by
   rw [List.getElem?_take] at hj
   split at hj
   ·exact hm.mem.base _ _ _ (h5 j v hj)
   ·cases hj
  exact ⟨_,by simp only [execOp,h1];exact qcg h6,⟨_,rfl,h3.take n,h7.sub fun u hu=>List.mem_of_mem_take hu⟩⟩
theorem qkk {φ:Fz} {w:World} {b:Nat} {t:TypeId} {As:List VP} (hm:HP c φ L w) (h:blk b t As∈L):∃ vs,w.heap[b]?=some (.cells vs.toArray t (0,0))∧Alls φ As vs∧ones vs:=by
 obtain ⟨vs,h1,h2,h3⟩:=(hm.mem.items _ h).1
 exact ⟨vs,by simpa [blk] using h1,h2,h3⟩
theorem qj6 {w:World} {b:Nat} {t:TypeId} {vs:List Value} (h:w.heap[b]?=some (.cells vs.toArray t (0,0))) (i:Nat):w.cell? ⟨b,i,none⟩=vs[i]?:=by
 simp [World.cell?,h]
theorem qd9 {t t0:TypeId} {x:Operand} {b o:Nat} {As:List VP} {B:VP} {D:TypeDesc} (hx:Ev A L x (Is (.pointer (some ⟨b,o,none⟩)))) (hL:blk b t0 As∈L) (hu:P.underlying t=some D) (hD:qr4 D=false) (h0:As[o]?=some B):OpP P c ⟨d,.load t x,ty,pos,af,g⟩ A L B:=
 opp fun φ a w hm he=>by
  have h1:a.eval x = .pointer (some ⟨b,o,none⟩):=he x (by simp [Op.operands]) _ hx
  obtain ⟨vs,h2,h3,h7⟩:=qkk hm hL
  obtain ⟨u,h4,h5⟩:=h3.get h0
  have h6:=(qj6 h2 o).trans h4
  exact ⟨u,by simp only [execOp,h1];exact qcg (qic hu hD h6),h5⟩
theorem qve {t t0:TypeId} {x:Operand} {b o n:Nat} {As:List VP} {D:TypeDesc} (hx:Ev A L x (Is (.pointer (some ⟨b,o,none⟩)))) (hL:blk b t0 As∈L) (hu:P.underlying t=some D) (hD:qr4 D=true) (hn:(P.info? t).map (·.size)=some n) (hl:Nat.ble (o+n) As.length=true) :
  OpP P c ⟨d,.load t x,ty,pos,af,g⟩ A L (IsAgg ((As.drop o).take n)):=
 opp fun φ a w hm he=>by
  have h1:a.eval x = .pointer (some ⟨b,o,none⟩):=he x (by simp [Op.operands]) _ hx
  obtain ⟨vs,h2,h3,h7⟩:=qkk hm hL
  have hn':=Nat.le_of_ble_eq_true hl
  have hlen:=h3.len
  have h6:=qid (w:=w) (b:=b) (o:=o) (vs:=(vs.drop o).take n) hu hD hn (by rw [List.length_take,List.length_drop];omega) fun j v hj=>by
   rw [List.getElem?_take] at hj
   split at hj
   ·rw [List.getElem?_drop] at hj
    rw [qj6 h2];exact hj
   ·cases hj
  exact ⟨_,by simp only [execOp,h1];exact qcg h6,⟨_,rfl,(h3.drop o).take n,h7.sub fun u hu=>List.mem_of_mem_drop (List.mem_of_mem_take hu)⟩⟩
end
section
variable {P:Program} {c:Ctx} {A:Nat→Option VP} {L:List Item} {d:Option Tmp} {ty:TypeId} {pos:String} {af:Array Edge} {g:Option (Nat×Bool)}
section
variable {α:Type} {T:Ty α} {xs:List α}
theorem zae {t:TypeId} {e:TypeId} (hu:P.underlying t=some (.slice e)) (ts:Array TypeId) (hts:ts[0]?=some t) (rt:TypeId) (a:Option Addr) (n cp:Nat) (w:World):(Builtin.len_ ts rt #[.slice a n cp]).run P w = .ok (.int .i64 n) w:=by
 simp [Builtin.len_,hts,run_underlying hu,goInt]
theorem za5 {x:Operand} {t e:TypeId} (hx:Ev A L x (qal T xs)) (hu:P.underlying t=some (.slice e)) :
  OpP P c ⟨d,.call { callee:=.builtin .len,args:=#[x],argTypes:=#[t] },ty,pos,af,g⟩ A L (Is (.int .i64 xs.length)):=
 opp fun φ a w hm he=>by
  obtain ⟨ad,n,cp,h1,h2,_⟩:(qal T xs).ok φ (a.eval x):=he x (by simp [Op.operands,Call.operands]) _ hx
  refine ⟨.int .i64 n,?_,by rw [h2];exact (rfl:Value.int .i64 (xs.length:Int)=_)⟩
  have h3:(#[x].map a.eval)=#[.slice ad n cp]:=by simp [h1]
  simp only [execOp,resolve,h3,Sem.run_bind,Sem.run_pure,Result.andThen_ok,invoke,builtin]
  simp only [zae hu #[t] rfl,Result.andThen_ok]
theorem qs9 {x:Operand} {t e:TypeId} {ad:Option Addr} {n cp:Nat} (hx:Ev A L x (Is (.slice ad n cp))) (hu:P.underlying t=some (.slice e)) :
  OpP P c ⟨d,.call { callee:=.builtin .len,args:=#[x],argTypes:=#[t] },ty,pos,af,g⟩ A L (Is (.int .i64 n)):=
 opp fun φ a w hm he=>by
  have h1:a.eval x = .slice ad n cp:=he x (by simp [Op.operands,Call.operands]) _ hx
  refine ⟨.int .i64 n,?_,rfl⟩
  have h3:(#[x].map a.eval)=#[.slice ad n cp]:=by simp [h1]
  simp only [execOp,resolve,h3,Sem.run_bind,Sem.run_pure,Result.andThen_ok,invoke,builtin]
  simp only [zae hu #[t] rfl,Result.andThen_ok]
theorem qau {x y:Operand} {t e:TypeId} {i:Int} {j:Nat} {k:IntKind} {z:α} (hx:Ev A L x (qal T xs)) (hy:Ev A L y (Is (.int k i))) (hu:P.underlying t=some (.slice e)) (hs:(P.info? e).map (·.size)=some T.size) (hi:i=j) (hz:xs[j]?=some z) :
  OpP P c ⟨d,.indexAddr t x y,ty,pos,af,g⟩ A L (qdo (T.cells z)):=
 opp fun φ a w hm he=>by
  obtain ⟨ad,n,cp,h1,h2,h3,h4,h5⟩:(qal T xs).ok φ (a.eval x):=he x (by simp [Op.operands]) _ hx
  have h6:a.eval y = .int k i:=he y (by simp [Op.operands]) _ hy
  have hlt:j<xs.length:=(List.getElem?_eq_some_iff.1 hz).1
  rcases h5 with h5|⟨b,o,rfl,h5⟩
  ·omega
  ·refine ⟨.pointer (some ⟨b,o+j*T.size,none⟩),?_,⟨b,_,rfl,h5 j z hz⟩⟩
   have h7:(0:Int)≤i∧i<(n:Int):=by omega
   have h8:i.toNat=j:=by omega
   simp only [execOp,h1,h6]
   refine qcg ?_
   simp only [Instr.indexAt,asIntOf,Sem.run_bind,Sem.run_pure,Result.andThen_ok,run_underlying hu,h7,and_self,if_true,qby hs,h8,qdm]
theorem SlAt.cut {φ:Fz} {a:Option Addr} {n cp lo hi:Nat} (h:SlAt T φ a n cp xs) (h1:lo≤hi) (h2:hi≤n):SlAt T φ (if cp=lo then a else a.map (·.add (lo*T.size))) (hi-lo) (cp-lo) ((xs.take hi).drop lo):=by
 obtain ⟨e1,e2,e3,e4⟩:=h
 refine ⟨by simp;omega,by omega,by omega,?_⟩
 by_cases h0:hi-lo=0
 ·exact .inl h0
 ·rcases e4 with e4|⟨b,o,rfl,e4⟩
  ·omega
  ·refine .inr ⟨b,o+lo*T.size,?_,fun k x hx=>?_⟩
   ·rw [if_neg (by omega),Option.map_some,qdm]
   ·rw [List.getElem?_drop] at hx
    have hlt:lo+k<hi:=by
     have:=(List.getElem?_eq_some_iff.1 hx).1
     rw [List.length_take] at this;omega
    rw [List.getElem?_take_of_lt hlt] at hx
    have:=e4 (lo+k) x hx
    rw [Nat.add_assoc,← Nat.add_mul];exact this
theorem qhu {y k:IntKind} {i:Int} {m n:Nat} (hi:i=n) (h:n≤m) (cd:BoundsCode) (w:World):(Instr.sliceBound (.int k i) m cd).run P w = .ok n w:=by
 subst hi
 have:(0:Int)≤(n:Int)∧(n:Int)≤(m:Int):=by omega
 simp [Instr.sliceBound,asIntOf,this]
def opN (A:Nat→Option VP) (L:List Item) (dflt:Nat):Option Operand→Nat→Prop
 | none,n=>n=dflt
 | some x,n=>∃ k i,Ev A L x (Is (.int k i))∧i=(n:Int)
theorem qpn {a:Act} {lo hi:Option Operand} {l h n cp:Nat} (hl:∀ x,lo=some x→∃ k,a.eval x = .int k (l:Int)) (hl0:lo=none→l=0) (hh:∀ x,hi=some x→∃ k,a.eval x = .int k (h:Int)) (hh0:hi=none→h=n) (h1:l≤h) (h2:h≤n) (h3:n≤cp) (w:World) :
  (Instr.sliceBounds true n cp (lo.map a.eval) (hi.map a.eval) none).run P w = .ok (l,h,cp) w:=by
 have e1 : ∀ cd, (match (hi.map a.eval : Option Value), (none : Option Value) with | some v, some _ => Instr.sliceBound v cp cd | some v, none => Instr.sliceBound v cp (if true then .sliceAcap else .sliceAlen) | none, none => pure n | none, some _ => stuck "Slice: max without high" : Sem Nat).run P w = .ok h w := by
  intro cd
  cases hi with
  | none=>rw [hh0 rfl];rfl
  | some x =>
   obtain ⟨k,e⟩:=hh x rfl
   simp only [Option.map_some,e]
   exact qhu (y:=k) rfl (by omega) _ w
 cases lo with
 | none =>
  obtain rfl:=hl0 rfl
  cases hi with
  | none =>
   obtain rfl:=hh0 rfl
   simp [Instr.sliceBounds]
  | some x =>
   obtain ⟨k,e⟩:=hh x rfl
   simp [Instr.sliceBounds,e,qhu (P:=P) (y:=k) (k:=k) rfl (show h≤cp by omega)]
 | some y =>
  obtain ⟨k',e'⟩:=hl y rfl
  cases hi with
  | none =>
   obtain rfl:=hh0 rfl
   simp [Instr.sliceBounds,e',qhu (P:=P) (y:=k') (k:=k') rfl h1]
  | some x =>
   obtain ⟨k,e⟩:=hh x rfl
   simp [Instr.sliceBounds,e,e',qhu (P:=P) (y:=k) (k:=k) rfl (show h≤cp by omega),qhu (P:=P) (y:=k') (k:=k') rfl h1]
theorem qdb {x:Operand} {t e:TypeId} {lo hi:Option Operand} {l h:Nat} (hx:Ev A L x (qal T xs)) (hu:P.underlying t=some (.slice e)) (hs:(P.info? e).map (·.size)=some T.size) (hl:opN A L 0 lo l) (hh:opN A L xs.length hi h) (h1:l≤h) (h2:h≤xs.length) :
  OpP P c ⟨d,.slice t x lo hi none,ty,pos,af,g⟩ A L (qal T ((xs.take h).drop l)):=
 opp fun φ a w hm he=>by
  obtain ⟨ad,n,cp,e1,e2⟩:(qal T xs).ok φ (a.eval x):=he x (by simp [Op.operands]) _ hx
  have hn:=e2.1
  have hcp:=e2.2.1
  have hlo:∀ y,lo=some y→∃ k,a.eval y = .int k (l:Int):=fun y hy=>by
   subst hy
   obtain ⟨k,i,h3,h4⟩:=hl
   have h5:a.eval y = .int k i:=he y (by simp [Op.operands]) _ h3
   exact ⟨k,by rw [h5,h4]⟩
  have hhi:∀ y,hi=some y→∃ k,a.eval y = .int k (h:Int):=fun y hy=>by
   subst hy
   obtain ⟨k,i,h3,h4⟩:=hh
   have h5:a.eval y = .int k i:=he y (by simp [Op.operands]) _ h3
   exact ⟨k,by rw [h5,h4]⟩
  have hb:=qpn (P:=P) (a:=a) (lo:=lo) (hi:=hi) (l:=l) (h:=h) (n:=n) (cp:=cp) hlo (fun e=>by subst e;exact hl) hhi (fun e=>by subst e;rw [hn];exact hh) h1 (by omega) hcp w
  refine ⟨_,?_,⟨_,_,_,rfl,e2.cut h1 (by omega)⟩⟩
  simp only [execOp,e1]
  refine qcg ?_
  simp only [Instr.sliceAt,Sem.run_bind,run_underlying hu,Result.andThen_ok,Instr.slice]
  simp only [Option.map_none] at hb ⊢
  simp only [hb,Result.andThen_ok,qby hs,Sem.run_pure]
end
def qdx (A:VP) (As:List VP):Prop:=∀ φ v,A.ok φ v→∃ vs:List Value,v.cells=vs.toArray∧Alls φ As vs∧ones vs
theorem qih {v:Value} (h:v.oneCell'=true):ones [v]:=qi5 h qf3
theorem qok {As:List VP}:qdx (IsAgg As) As:=fun φ v ⟨vs,e,k⟩=>⟨vs,by rw [e];rfl,k⟩
theorem qrw {u:Value} (h1:u.oneCell'=true):qdx (Is u) [Is u]:=fun φ v e=>by
 have e':v=u:=e
 subst e'
 refine ⟨[v],?_,⟨rfl,trivial⟩,qih h1⟩
 cases v <;> first|rfl|cases h1
theorem qoi {As:List VP}:qdx (qdo As) [qdo As]:=fun φ v ⟨b,o,e,k⟩=>⟨[v],by rw [e];rfl,⟨⟨b,o,e,k⟩,trivial⟩,by rw [e];exact qih rfl⟩
theorem qrv {α:Type} {T:Ty α} {xs:List α}:qdx (qal T xs) [qal T xs]:=fun φ v ⟨a,n,cp,e,k⟩=>⟨[v],by rw [e];rfl,⟨⟨a,n,cp,e,k⟩,trivial⟩,by rw [e];exact qih rfl⟩
theorem qoj {vs:List Value} (h:(vs.all Value.oneCell')=true):qdx (Is (.agg vs.toArray)) (vs.map Is):=fun φ v e=>⟨vs,by rw [show v = .agg vs.toArray from e];rfl,qhl vs,qhd h⟩
def ovr:List VP→Nat→List VP→List VP
 | As,_,[]=>As
 | As,o,B :: Bs=>ovr (As.set o B) (o+1) Bs
theorem zaz:∀ (Bs As:List VP) (o:Nat),(ovr As o Bs).length=As.length
 | [],_,_=>rfl
 | B :: Bs,As,o=>by rw [ovr,zaz Bs];simp
def qkp (place:Nat→Option (Nat×Nat)):List VP→List (Nat×List VP)→Option (List VP)
 | As,[]=>some As
 | As,(i,Bs) :: rest =>
  match place i with
  | none=>none
  | some (off,size)=>bif Nat.beq Bs.length size&&Nat.ble (off+Bs.length) As.length then qkp place (ovr As off Bs) rest else none
def Parts (φ:Fz):List (Nat×List VP)→List (Nat×Value)→Prop
 | [],[]=>True
 | (i,Bs) :: l,(j,v) :: m=>(i=j∧∃ vs:List Value,v.cells=vs.toArray∧Alls φ Bs vs∧ones vs)∧Parts φ l m
 | _,_=>False
theorem qxn {φ:Fz}:∀ (us:List Value) (Bs:List VP) (As:List VP) (vs:List Value) (o k:Nat),Alls φ As vs→ones vs→Alls φ Bs us→ones us →
  ∃ rs:List Value,(us.zipIdx k).foldl (fun (cs:Array Value) (p:Value×Nat)=>cs.setIfInBounds (o+p.2) p.1) vs.toArray=rs.toArray∧Alls φ (ovr As (o+k) Bs) rs∧ones rs
 | [],[],As,vs,o,k,h,g,_,_=>⟨vs,rfl,h,g⟩
 | u :: us,B :: Bs,As,vs,o,k,h,g,⟨h1,h2⟩,g2=>by
  simp only [List.zipIdx_cons,List.foldl_cons,List.setIfInBounds_toArray,ovr]
  have g3:ones (vs.set (o+k) u):=fun x hx=>by
   rcases List.mem_or_eq_of_mem_set hx with hx|rfl
   ·exact g x hx
   ·exact g2 _ (List.mem_cons_self ..)
  obtain ⟨rs,e1,e2⟩:=qxn us Bs (As.set (o+k) B) (vs.set (o+k) u) o (k+1) (h.set _ h1) g3 h2 (g2.sub fun x hx=>List.mem_cons_of_mem _ hx)
  exact ⟨rs,e1,by rw [Nat.add_assoc];exact e2⟩
 | [],_ :: _,_,_,_,_,_,_,h,_=>h.elim
 | _ :: _,[],_,_,_,_,_,_,h,_=>h.elim
theorem qme {φ:Fz} {place:Nat→Option (Nat×Nat)}:∀ {ps:List (Nat×List VP)} {qs:List (Nat×Value)} {As Rs:List VP} {vs:List Value},Alls φ As vs→ones vs→Parts φ ps qs→qkp place As ps=some Rs→∃ rs:List Value,Instr.fill place vs.toArray qs=some rs.toArray∧Alls φ Rs rs∧ones rs
 | [],[],As,Rs,vs,h,g,_,e=>by
  simp only [qkp,Option.some.injEq] at e
  subst e
  exact ⟨vs,rfl,h,g⟩
 | (i,Bs) :: ps,(j,v) :: qs,As,Rs,vs,h,g,⟨⟨hij,us,hus,hB,gB⟩,hr⟩,e=>by
  subst hij
  simp only [qkp] at e
  cases hp:place i with
  | none=>rw [hp] at e;cases e
  | some os =>
   obtain ⟨off,size⟩:=os
   rw [hp] at e
   dsimp only at e
   cases hc:(Nat.beq Bs.length size&&Nat.ble (off+Bs.length) As.length) with
   | false=>rw [hc] at e;cases e
   | true =>
    rw [hc] at e
    simp only [cond_true] at e
    simp only [Bool.and_eq_true] at hc
    have h1:=Nat.eq_of_beq_eq_true hc.1
    have h2:=Nat.le_of_ble_eq_true hc.2
    have h3:=hB.len
    have h4:=h.len
    obtain ⟨rs,f1,f2,f3⟩:=qxn us Bs As vs off 0 h g hB gB
    obtain ⟨ts,g1,g2⟩:=qme (vs:=rs) f2 f3 hr e
    refine ⟨ts,?_,g2⟩
    simp only [Instr.fill,hp,hus,List.size_toArray]
    rw [if_neg (by simp;omega)]
    have:us.toArray.zipIdx.foldl (fun (cs:Array Value) (p:Value×Nat)=>cs.setIfInBounds (off+p.2) p.1) vs.toArray=rs.toArray:=by
     rw [← f1];simp
    rw [this];exact g1
 | [],_ :: _,_,_,_,_,_,h,_=>h.elim
 | _ :: _,[],_,_,_,_,_,h,_=>h.elim
def PartsE (A:Nat→Option VP) (L:List Item):List (Nat×Operand)→List (Nat×List VP)→Prop
 | [],[]=>True
 | (i,x) :: l,(j,Bs) :: m=>(i=j∧∃ D,Ev A L x D∧qdx D Bs)∧PartsE A L l m
 | _,_=>False
theorem PartsE.at_ {φ:Fz} {a:Act}:∀ {l:List (Nat×Operand)} {m:List (Nat×List VP)},PartsE A L l m→(∀ i x,(i,x)∈l→∀ B,Ev A L x B→B.ok φ (a.eval x))→Parts φ m (l.map fun p=>(p.1,a.eval p.2))
 | [],[],_,_=>trivial
 | (i,x) :: l,(j,Bs) :: m,⟨⟨hij,D,h1,h2⟩,h3⟩,h=>⟨⟨hij.symm,h2 φ _ (h i x (List.mem_cons_self ..) D h1)⟩,h3.at_ fun i x hx=>h i x (List.mem_cons_of_mem _ hx)⟩
 | [],_ :: _,h,_=>h.elim
 | _ :: _,[],h,_=>h.elim
theorem qia {t:TypeId} {z:Value} (h:(P.info? t).map (·.zero)=some (some z)) (w:World):(zeroValue t).run P w = .ok z w:=by
 obtain ⟨i,h1,h2⟩:=Option.map_eq_some_iff.1 h
 simp [zeroValue,typeInfo,h1,h2]
def qi0 (P:Program):List Field→Option (List (Nat×Nat))
 | []=>some []
 | f :: fs=>match (P.info? f.type).map (·.size),qi0 P fs with
  | some n,some l=>some ((f.offset,n) :: l)
  | _,_=>none
theorem qya {w:World}:∀ {fs:List Field} {l:List (Nat×Nat)},qi0 P fs=some l→(fs.toArray.mapM fun f=>do pure (f.offset,← sizeOf f.type):Sem (Array (Nat×Nat))).run P w = .ok l.toArray w:=by
 intro fs l h
 rw [List.mapM_toArray]
 have:∀ {fs:List Field} {l:List (Nat×Nat)},qi0 P fs=some l→(fs.mapM fun f=>do pure (f.offset,← sizeOf f.type):Sem (List (Nat×Nat))).run P w = .ok l w:=by
  intro fs
  induction fs with
  | nil=>intro l h;simp only [qi0,Option.some.injEq] at h;subst h;rfl
  | cons f fs ih =>
   intro l h
   simp only [qi0] at h
   split at h
   ·rename_i n l' h1 h2
    injection h with h
    subst h
    rw [List.mapM_cons]
    simp only [Sem.run_bind,qby h1,Result.andThen_ok,Sem.run_pure,ih h2]
   ·cases h
 simp only [Sem.run_map,this h]
 rfl
theorem op_build {t:TypeId} {ps:Array (Nat×Operand)} {fs:List Field} {zs:List Value} {pl:List (Nat×Nat)} {qs:List (Nat×List VP)} {Rs:List VP} (hu:P.underlying t=some (.struct fs.toArray)) (hz:(P.info? t).map (·.zero)=some (some (.agg zs.toArray))) (h1:(zs.all Value.oneCell')=true)
  (hpl:qi0 P fs=some pl) (hq:PartsE A L ps.toList qs) (hf:qkp (fun i=>pl[i]?) (zs.map Is) qs=some Rs):OpP P c ⟨d,.build t ps,ty,pos,af,g⟩ A L (IsAgg Rs):=
 opp fun φ a w hm he=>by
  have hp:=hq.at_ (φ:=φ) (a:=a) fun i x hx=>he x (by simp only [Op.operands];simp;exact ⟨i,by simpa using hx⟩)
  obtain ⟨rs,h1,h2⟩:=qme (qhl (φ:=φ) zs) (qhd h1) hp hf
  refine ⟨.agg rs.toArray,?_,⟨rs,rfl,h2⟩⟩
  simp only [execOp]
  refine qcg ?_
  have h3:(ps.map fun x=>(x.1,a.eval x.2)).toList=ps.toList.map fun p=>(p.1,a.eval p.2):=by simp
  simp only [Instr.build,Sem.run_bind,qia hz,Result.andThen_ok,run_underlying hu,qya hpl]
  have h4:(fun (x:Nat)=>pl.toArray[x]?)=(fun (i:Nat)=>pl[i]?):=by funext x;simp
  rw [h3,h4]
  show (match Instr.fill (fun i=>pl[i]?) zs.toArray (ps.toList.map fun p=>(p.1,a.eval p.2)) with|some cells=>pure (.agg cells)|_=>stuck _:Sem Value).run P w=_
  rw [h1];rfl
end
end Go.Proofs.YtmgoplaamlignaaGreat
