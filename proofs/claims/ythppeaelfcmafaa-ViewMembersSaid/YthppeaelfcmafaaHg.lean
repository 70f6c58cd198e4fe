/- Returns; small things. Own work. -/
import Derived.Test.YthppeaelfcmafaaHf
import Derived.IntWalk
namespace Go.Proofs.Ythppeaelfcmafaa
open Go.RowKit
set_option linter.unusedVariables false
section
variable {P : Program} {c : Ctx} {N : Nat} {E : Env} {L : List Item} {Q : Exit → Act → World → Prop}
theorem Fn.enterN {f : FuncId} {fn : Func} {x : Code} {As : List VP} {ι : Type} {R : ι → VP} {L' : ι → List Item} (hf : P.funcs[f]? = some fn) (hN : fn.ntmps = N) (hb : fn.body = some x) (hn : Nat.ble As.length N = true)
    (h : ∀ c : Ctx, c.X = names L → JC P c N x (argE 0 As) L (bodyPost P fn (Post c R L'))) : Fn P f As L R L' := by
  subst hN
  exact Fn.enter hf hb hn h
theorem FnP.enter {f : FuncId} {fn : Func} {x : Code} {As : List VP} {R : VP} (hf : P.funcs[f]? = some fn) (hN : fn.ntmps = N) (hb : fn.body = some x) (hn : Nat.ble As.length N = true)
    (h : ∀ c : Ctx, c.X = [] → JC P c N x (argE 0 As) [] (bodyPost P fn (Post c (fun _ : Unit => R) (fun _ => [])))) : FnP P f As R := Fn.enterN hf hN hb hn h
theorem JC_dr {id : Nat} {l : List Oper} (hm : P.follows .mixedOrders = true) (hB : (goodB l.toArray (needs l []) && ordB l.toArray (needs l []) && opsAll (fun _ o => dstB N o.dst) l 0) = true) (h : JD P l.toArray Q c N (needs l []) 0 l E L) : JC P c N (Code.region id l.toArray true) E L Q := JC_draw _ hm hB h
theorem JQ_hit {id : Nat} (h : JQ c N E L Q .normal) : JQ c N E L (Exit.inBlock id Q) (.exit id) := JQ_block_hit (by simp) h
theorem SubL.eq {A B : VP} (h : A = B) : SubL L A B := h ▸ SubL.rfl'
/-- One result. -/
def RetE (P : Program) (E : Env) (L : List Item) : List ResultVar → List VP → Prop
  | [], [] => True
  | .tmp t :: rs, B :: Bs => (∃ D, look E t = some D ∧ SubL L D B) ∧ RetE P E L rs Bs
  | .cell t ty :: rs, B :: Bs => (∃ b t0 As D, look E t = some (Is (.pointer (some ⟨b, 0, none⟩))) ∧ blk b t0 As ∈ L ∧ P.underlying ty = some D ∧
      ((aggB D = false ∧ ∃ X, As[0]? = some X ∧ SubL L X B) ∨ (aggB D = true ∧ ∃ n, (P.info? ty).map (·.size) = some n ∧ Nat.ble n As.length = true ∧ SubL L (IsAgg (As.take n)) B))) ∧ RetE P E L rs Bs
  | _, _ => False
theorem run_asAddr (p : Addr) (w : World) : (asAddr (.pointer (some p))).run P w = .ok p w := rfl
theorem run_results {A : Nat → Option VP} {φ : Fz} {a : Act} {w : World} (st : St c N (look E) L φ a w) : ∀ {rs : List ResultVar} {Bs : List VP}, RetE P E L rs Bs → ∃ vs : List Value,
    (rs.mapM fun | .tmp t => pure (a.tmps.getD t undef) | .cell b t => do loadVar t (← asAddr (a.tmps.getD b undef)) : Sem (List Value)).run P w = .ok vs w ∧ Alls φ Bs vs
  | [], [], _ => ⟨[], rfl, trivial⟩
  | .tmp t :: rs, B :: Bs, ⟨⟨D, h1, h2⟩, h3⟩ => by
    obtain ⟨vs, h4, h5⟩ := run_results (A := A) st h3
    refine ⟨a.tmps.getD t undef :: vs, ?_, h2 _ _ st.mem.mem.facts (st.env t D h1), h5⟩
    rw [List.mapM_cons]
    simp only [Sem.run_bind, Sem.run_pure, Result.andThen_ok, h4]
  | .cell t ty :: rs, B :: Bs, ⟨⟨b, t0, As, D, h1, h2, h3, h4⟩, h5⟩ => by
    obtain ⟨vs, h6, h7⟩ := run_results (A := A) st h5
    have hv : a.tmps.getD t undef = .pointer (some ⟨b, 0, none⟩) := st.env t _ h1
    obtain ⟨us, e1, e2, e3⟩ := own_blk st.mem h2
    have key : ∃ u, (loadVar ty ⟨b, 0, none⟩).run P w = .ok u w ∧ B.ok φ u := by
      rcases h4 with ⟨hD, X, hX, hs⟩ | ⟨hD, n, hn, hl, hs⟩
      · obtain ⟨u, f1, f2⟩ := e2.get hX
        exact ⟨u, run_loadOne h3 hD ((cell_blk e1 0).trans f1), hs _ _ st.mem.mem.facts f2⟩
      · have hl' := Nat.le_of_ble_eq_true hl
        have hlen := e2.len
        refine ⟨_, run_loadAgg (vs := us.take n) h3 hD hn (by rw [List.length_take]; omega) fun j v hj => ?_, hs _ _ st.mem.mem.facts ⟨us.take n, rfl, e2.take n, e3.sub fun u hu => List.mem_of_mem_take hu⟩⟩
        rw [List.getElem?_take] at hj
        split at hj
        · rw [Nat.zero_add, cell_blk e1]; exact hj
        · cases hj
    obtain ⟨u, k1, k2⟩ := key
    refine ⟨u :: vs, ?_, k2, h7⟩
    rw [List.mapM_cons]
    simp only [Sem.run_bind, hv, run_asAddr, Sem.run_pure, Result.andThen_ok, k1, h6]
  | .tmp _ :: _, [], h => h.elim
  | .cell _ _ :: _, [], h => h.elim
  | [], _ :: _, h => h.elim
def retVP : List VP → VP
  | [B] => B
  | Bs => IsTup Bs
theorem JQ_ret {fn : Func} {ι : Type} {R : ι → VP} {L' : ι → List Item} {rs : List ResultVar} {Bs : List VP} (hr : fn.results = rs.toArray) (hE : RetE P E L rs Bs) (i : ι) (hB : SubL L (retVP Bs) (R i)) (hL : (L' i).Sublist L) : JQ c N E L (bodyPost P fn (Post c R L')) .ret := by
  intro φ a w st
  obtain ⟨vs, h1, h2⟩ := run_results (A := look E) st hE
  have hlen := h2.len
  have hrun : (results fn a.tmps).run P w = .ok (if h : vs.toArray.size = 1 then vs.toArray[0] else .tuple vs.toArray) w := by
    unfold results
    rw [hr, List.mapM_toArray]
    simp only [Sem.run_bind, Sem.run_map, Sem.run_pure]
    erw [h1]
    rfl
  refine bodyPost_ret hrun st.defers ⟨i, _, φ, rfl, hB _ _ st.mem.mem.facts ?_, st.mem.less hL⟩
  match Bs, vs, h2 with
  | [], [], _ => exact ⟨[], rfl, trivial⟩
  | [B], [v], h => exact h.1
  | B :: B' :: Bs, v :: v' :: vs, h => exact ⟨_, rfl, h⟩
theorem JQ_end {fn : Func} {ι : Type} {R : ι → VP} {L' : ι → List Item} (h : JQ c N E L (bodyPost P fn (Post c R L')) .ret) : JQ c N E L (bodyPost P fn (Post c R L')) .normal := h
variable {A : Nat → Option VP} {d : Option Tmp} {ty : TypeId} {pos : String} {af : Array Edge} {g : Option (Nat × Bool)}
theorem op_moveE {x : Operand} {D : VP} (h : Ev A L x D) : OpP P c ⟨d, .move x, ty, pos, af, g⟩ A L D :=
  opp fun φ a w hm he => ⟨_, rfl, he x (by simp [Op.operands]) D h⟩
theorem op_moveE2 {x : Operand} {D : VP} (h : Ev A L x D) : OpP P c ⟨d, .assign x, ty, pos, af, g⟩ A L D :=
  opp fun φ a w hm he => ⟨_, rfl, he x (by simp [Op.operands]) D h⟩
theorem op_pick {x y z : Operand} {p : Bool} {Y Z : VP} (hx : Ev A L x (Is (.bool p))) (hy : evA A y = some Y) (hz : evA A z = some Z) : OpP P c ⟨d, .pick x y z, ty, pos, af, g⟩ A L (VPite p Y Z) :=
  opp fun φ a w hm he => by
    have h1 : a.eval x = .bool p := he x (by simp [Op.operands]) _ hx
    have h2 : Y.ok φ (a.eval y) := he y (by simp [Op.operands]) _ (.rfl' hy)
    have h3 : Z.ok φ (a.eval z) := he z (by simp [Op.operands]) _ (.rfl' hz)
    cases p with
    | true => exact ⟨a.eval y, by simp [execOp, h1, asBool], h2⟩
    | false => exact ⟨a.eval z, by simp [execOp, h1, asBool], h3⟩
theorem wI64 {n : Int} (h : -9223372036854775808 ≤ n ∧ n ≤ 9223372036854775807) : IntKind.i64.wrap n = n := IntWalk.i64_in n h
theorem wU64 {n : Int} (h : 0 ≤ n ∧ n < 18446744073709551616) : IntKind.u64.wrap n = n := by
  rw [wrap_u64_mod]; omega
theorem wU32 {n : Int} (h : 0 ≤ n ∧ n < 4294967296) : IntKind.u32.wrap n = n := by
  rw [wrap_u32_mod]; omega
theorem u64lit {n : Int} (h : 0 ≤ n ∧ n < 18446744073709551616) : Value.int .u64 n = .int .u64 (UV (BitVec.ofInt 64 n)) := by
  have : UV (BitVec.ofInt 64 n) = n := by
    unfold UV; rw [BitVec.toNat_ofInt]; simp; omega
  rw [this]
theorem u32lit {n : Int} (h : 0 ≤ n ∧ n < 4294967296) : Value.int .u32 n = .int .u32 (UV (BitVec.ofInt 32 n)) := by
  have : UV (BitVec.ofInt 32 n) = n := by
    unfold UV; rw [BitVec.toNat_ofInt]; simp; omega
  rw [this]
/-- A call that hands back one thing of one's own, told by its value. -/
theorem op_callO {f : FuncId} {xs : List Operand} {ts : Array TypeId} {As : List VP} {ι : Type} {val : ι → Value} {I : ι → Item} (hc : ∀ (args : Array Value) (w : World), (callFunc f args).run P w = .ok (.enter f args) w)
    (hF : Fn P f As [] (fun i => Is (val i)) (fun i => [I i])) (ha : ArgsE A L xs As) : OpN P c ⟨d, .call { callee := .value (.func f), args := xs.toArray, argTypes := ts }, ty, pos, af, g⟩ A L val I := by
  intro φ a w K Q hm he hk
  have hv := ha.alls (φ := φ) (a := a) fun x hx => he x (by simp [Op.operands, Call.operands, hx])
  unfold Oper.wp
  rw [run_enter hc]
  refine (hF φ w _ hv ⟨hm.mem.base, by simp, List.Pairwise.nil⟩).mono ?_
  rintro e w' ⟨i, v, φ', rfl, h1, h2⟩
  have h1' : v = val i := h1
  subst h1'
  exact hk i φ' w' (by simpa [names] using h2)
theorem alls_is_eq {φ : Fz} : ∀ {vs us : List Value}, Alls φ (vs.map Is) us → us = vs
  | [], [], _ => rfl
  | v :: vs, u :: us, ⟨h1, h2⟩ => by rw [show u = v from h1, alls_is_eq h2]
/-- Two structs are compared. -/
theorem op_cmpA {o : BinOp} {t u : TypeId} {x y : Operand} {vs ws : List Value} {r : Value} (hx : Ev A L x (IsAgg (vs.map Is))) (hy : Ev A L y (IsAgg (ws.map Is))) (hg : ∀ w, (eqGuard o t x y (.agg vs.toArray) (.agg ws.toArray)).run P w = .ok () w)
    (hr : ∀ w, (binOp o t (.agg vs.toArray) (.agg ws.toArray)).run P w = .ok r w) : OpP P c ⟨d, .binOp o t x y u, ty, pos, af, g⟩ A L (Is r) :=
  opp fun φ a w hm he => by
    obtain ⟨us, h1, h2, _⟩ : (IsAgg (vs.map Is)).ok φ (a.eval x) := he x (by simp [Op.operands]) _ hx
    obtain ⟨us', h3, h4, _⟩ : (IsAgg (ws.map Is)).ok φ (a.eval y) := he y (by simp [Op.operands]) _ hy
    rw [alls_is_eq h2] at h1
    rw [alls_is_eq h4] at h3
    exact ⟨r, by simp only [execOp, h1, h3, Sem.run_bind, hg, Result.andThen_ok, hr, Sem.run_pure], rfl⟩
/-- A call of a function that a temporary holds. -/
theorem op_callV {f : FuncId} {x : Operand} {xs : List Operand} {ts : Array TypeId} {As : List VP} {R : VP} {cap : List Value} (hx : Ev A L x (Is (.func (.func f) #[] cap.toArray))) (hc : ∀ (args : Array Value) (w : World), (callFunc f args).run P w = .ok (.enter f args) w)
    (hF : FnP P f (As ++ cap.map Is) R) (ha : ArgsE A L xs As) : OpP P c ⟨d, .call { callee := .value x, args := xs.toArray, argTypes := ts }, ty, pos, af, g⟩ A L R := by
  intro φ a w K Q hm he hk
  have h1 : a.eval x = .func (.func f) #[] cap.toArray := he x (by simp [Op.operands, Call.operands]) _ hx
  have hv := ha.alls (φ := φ) (a := a) fun x hx => he x (by simp [Op.operands, Call.operands, hx])
  have hrun : (execOp a.eval ⟨d, .call { callee := .value x, args := xs.toArray, argTypes := ts }, ty, pos, af, g⟩).run P w = .ok (.enter f (xs.map a.eval ++ cap).toArray) w := by
    simp only [execOp, resolve, h1, Deferred.ofValue, Sem.run_bind, Sem.run_pure, Result.andThen_ok, invoke, hc]
    simp
  unfold Oper.wp
  rw [hrun]
  refine (hF φ w _ (hv.append (alls_is cap)) ⟨hm.mem.base, by simp, List.Pairwise.nil⟩).mono ?_
  rintro e w' ⟨i, v, φ', rfl, h1, h2⟩
  exact hk φ' v w' (by simpa [names] using h2) h1
theorem op_callV0 {f : FuncId} {x : Operand} {xs : List Operand} {ts : Array TypeId} {As : List VP} {R : VP} (hx : Ev A L x (Is (.func (.func f) #[] #[]))) (hc : ∀ (args : Array Value) (w : World), (callFunc f args).run P w = .ok (.enter f args) w)
    (hF : FnP P f As R) (ha : ArgsE A L xs As) : OpP P c ⟨d, .call { callee := .value x, args := xs.toArray, argTypes := ts }, ty, pos, af, g⟩ A L R := op_callV (cap := []) hx hc (by simpa using hF) ha
/-- The nil slice is a row of one's own. -/
theorem HP.buf0 {α : Type} {φ : Fz} {w : World} (e : TypeId) (T : Ty α) (h : HP c φ L w) : HP c φ (buf (.slice none 0 0) e T [] :: L) w :=
  ⟨⟨h.mem.base, fun it hi => by
    rcases List.mem_cons.1 hi with rfl | hi
    · exact ⟨⟨[], by simp, trivial, ones_nil, .inl ⟨rfl, rfl⟩⟩, fun b (hb : none = some b) => (nomatch hb)⟩
    · exact h.mem.items it hi, List.pairwise_cons.2 ⟨fun y _ b (hb : none = some b) => (nomatch hb), h.mem.sep⟩⟩, h.kept, h.mine, h.old⟩
theorem JC_buf0 {α : Type} {x : Code} (e : TypeId) (T : Ty α) (h : JC P c N x E (buf (.slice none 0 0) e T [] :: L) Q) : JC P c N x E L Q := fun φ a w st =>
  h φ a w ⟨st.defers, st.size, st.env, st.mem.buf0 e T⟩
/-! ### Steps, the operation laid open -/
section
variable {ops : Array Oper} {rest : List Oper} {t : Tmp} {op : Op}
theorem JL_1 {F : VP} (hd : Nat.blt t N = true) (hs : OpP P c ⟨some t, op, ty, pos, af, none⟩ (look E) L F) (h : JL P ops Q c N rest ((t, F) :: E) L) : JL P ops Q c N (⟨some t, op, ty, pos, af, none⟩ :: rest) E L := JL_op1 rfl hd hs h
theorem JL_i {j : Nat} {want p b : Bool} {g : Tmp} {F : VP} (hj : (ops[j]?).bind (·.dst) = some g) (hl : look E g = some (VPite p (Is (.bool b)) (Is undef))) (hd : Nat.blt t N = true) (hs : p = true → (b == want) = true → OpP P c ⟨some t, op, ty, pos, af, some (j, want)⟩ (look E) L F)
    (h : JL P ops Q c N rest ((t, VPite (p && (b == want)) F (Is undef)) :: E) L) : JL P ops Q c N (⟨some t, op, ty, pos, af, some (j, want)⟩ :: rest) E L := JL_if rfl hj hl hd hs h
theorem JL_i0 {j : Nat} {want b : Bool} {g : Tmp} {F : VP} (hj : (ops[j]?).bind (·.dst) = some g) (hl : look E g = some (Is (.bool b))) (hd : Nat.blt t N = true) (hs : (b == want) = true → OpP P c ⟨some t, op, ty, pos, af, some (j, want)⟩ (look E) L F)
    (h : JL P ops Q c N rest ((t, VPite (b == want) F (Is undef)) :: E) L) : JL P ops Q c N (⟨some t, op, ty, pos, af, some (j, want)⟩ :: rest) E L := JL_if0 rfl hj hl hd hs h
theorem JL_n {ι : Type} {val : ι → Value} {I : ι → Item} (hd : Nat.blt t N = true) (hs : OpN P c ⟨some t, op, ty, pos, af, none⟩ (look E) L val I) (h : ∀ i, JL P ops Q c N rest ((t, Is (val i)) :: E) (I i :: L)) : JL P ops Q c N (⟨some t, op, ty, pos, af, none⟩ :: rest) E L := JL_op rfl hd hs.toS h
theorem JL_s {ι : Type} {F : ι → VP} {L' : ι → List Item} (hd : Nat.blt t N = true) (hs : OpS P c ⟨some t, op, ty, pos, af, none⟩ (look E) L F L') (h : ∀ i, JL P ops Q c N rest ((t, F i) :: E) (L' i)) : JL P ops Q c N (⟨some t, op, ty, pos, af, none⟩ :: rest) E L := JL_op rfl hd hs h
theorem JL_s0 {L' : List Item} {F : VP} (hs : OpS P c ⟨none, op, ty, pos, af, none⟩ (look E) L (fun _ : Unit => F) (fun _ => L')) (h : JL P ops Q c N rest E L') : JL P ops Q c N (⟨none, op, ty, pos, af, none⟩ :: rest) E L := JL_op rfl rfl hs fun _ => h
variable {nd : List Nat} {k : Nat}
theorem JD_1 {F : VP} (ha : afterB nd ops.size (k + 1) k = true) (hko : ops[k]? = some ⟨some t, op, ty, pos, af, none⟩) (hd : Nat.blt t N = true) (hs : OpP P c ⟨some t, op, ty, pos, af, none⟩ (look E) L F) (h : JD P ops Q c N nd (k + 1) rest ((t, F) :: E) L) : JD P ops Q c N nd k (⟨some t, op, ty, pos, af, none⟩ :: rest) E L := JD_op1 ha hko rfl hd hs h
theorem JD_s {ι : Type} {F : ι → VP} {L' : ι → List Item} (ha : afterB nd ops.size (k + 1) k = true) (hko : ops[k]? = some ⟨some t, op, ty, pos, af, none⟩) (hd : Nat.blt t N = true) (hs : OpS P c ⟨some t, op, ty, pos, af, none⟩ (look E) L F L') (h : ∀ i, JD P ops Q c N nd (k + 1) rest ((t, F i) :: E) (L' i)) : JD P ops Q c N nd k (⟨some t, op, ty, pos, af, none⟩ :: rest) E L := JD_op ha hko rfl hd hs h
theorem JD_n {ι : Type} {val : ι → Value} {I : ι → Item} (ha : afterB nd ops.size (k + 1) k = true) (hko : ops[k]? = some ⟨some t, op, ty, pos, af, none⟩) (hd : Nat.blt t N = true) (hs : OpN P c ⟨some t, op, ty, pos, af, none⟩ (look E) L val I) (h : ∀ i, JD P ops Q c N nd (k + 1) rest ((t, Is (val i)) :: E) (I i :: L)) : JD P ops Q c N nd k (⟨some t, op, ty, pos, af, none⟩ :: rest) E L := JD_op ha hko rfl hd hs.toS h
theorem JD_s0 {L' : List Item} {F : VP} (ha : afterB nd ops.size (k + 1) k = true) (hko : ops[k]? = some ⟨none, op, ty, pos, af, none⟩) (hs : OpS P c ⟨none, op, ty, pos, af, none⟩ (look E) L (fun _ : Unit => F) (fun _ => L')) (h : JD P ops Q c N nd (k + 1) rest E L') : JD P ops Q c N nd k (⟨none, op, ty, pos, af, none⟩ :: rest) E L := JD_op ha hko rfl rfl hs fun _ => h
variable {n : Nat} {EO : EnvO}
theorem JW_1 {F : VP} (hs : OpP P c ⟨some t, op, ty, pos, af, none⟩ (vals EO) L F) (h : JW P ops Q c N nd (k + 1) n rest ((t, .v F) :: EO) L) : JW P ops Q c N nd k (n + 1) (⟨some t, op, ty, pos, af, none⟩ :: rest) EO L := JW_op rfl hs h
theorem JW_n {ι : Type} {val : ι → Value} {I : ι → Item} (hs : OpN P c ⟨some t, op, ty, pos, af, none⟩ (vals EO) L val I) (h : JW P ops Q c N nd (k + 1) n rest ((t, .own val I) :: EO) L) : JW P ops Q c N nd k (n + 1) (⟨some t, op, ty, pos, af, none⟩ :: rest) EO L := JW_new rfl hs h
theorem JW_i {j : Nat} {want p b : Bool} {g : Tmp} {F : VP} (hj : (ops[j]?).bind (·.dst) = some g) (hl : vals EO g = some (VPite p (Is (.bool b)) (Is undef))) (hs : p = true → (b == want) = true → OpP P c ⟨some t, op, ty, pos, af, some (j, want)⟩ (vals EO) L F)
    (h : JW P ops Q c N nd (k + 1) n rest ((t, .v (VPite (p && (b == want)) F (Is undef))) :: EO) L) : JW P ops Q c N nd k (n + 1) (⟨some t, op, ty, pos, af, some (j, want)⟩ :: rest) EO L := JW_if rfl hj hl hs h
theorem JW_i0 {j : Nat} {want b : Bool} {g : Tmp} {F : VP} (hj : (ops[j]?).bind (·.dst) = some g) (hl : vals EO g = some (Is (.bool b))) (hs : (b == want) = true → OpP P c ⟨some t, op, ty, pos, af, some (j, want)⟩ (vals EO) L F)
    (h : JW P ops Q c N nd (k + 1) n rest ((t, .v (VPite (b == want) F (Is undef))) :: EO) L) : JW P ops Q c N nd k (n + 1) (⟨some t, op, ty, pos, af, some (j, want)⟩ :: rest) EO L := JW_if0 rfl hj hl hs h
end
end
end Go.Proofs.Ythppeaelfcmafaa
