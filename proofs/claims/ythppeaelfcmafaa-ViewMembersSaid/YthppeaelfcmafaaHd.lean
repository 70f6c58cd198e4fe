/- One rule an operation. Own work. -/
import Derived.Test.YthppeaelfcmafaaHc
namespace Go.Proofs.Ythppeaelfcmafaa
open Go.RowKit
set_option linter.unusedVariables false
section
variable {P : Program} {c : Ctx} {A : Nat → Option VP} {L : List Item} {d : Option Tmp} {ty : TypeId} {pos : String} {af : Array Edge} {g : Option (Nat × Bool)}
theorem HP.idle {φ : Fz} {w : World} (h : HP c φ L w) : HP ⟨w, φ, []⟩ φ [] w := HP.start (L := []) ⟨h.mem.base, by simp, List.Pairwise.nil⟩
/-- An operation that yields a value in the world as it is. -/
theorem opp {o : Oper} {F : VP} (h : ∀ (φ : Fz) (a : Act) (w : World), HP c φ L w → (∀ x, x ∈ o.op.operands → ∀ B, Ev A L x B → B.ok φ (a.eval x)) → ∃ v, (execOp a.eval o).run P w = .ok (.value v) w ∧ F.ok φ v) : OpP P c o A L F := by
  intro φ a w K Q hm he hk
  obtain ⟨v, h1, h2⟩ := h φ a w hm he
  unfold Oper.wp
  rw [h1]
  exact hk φ v w hm.idle h2
/-- The same, some frozen memory being made. -/
theorem opq {o : Oper} {F : VP} (h : ∀ (φ : Fz) (a : Act) (w : World), HP c φ L w → (∀ x, x ∈ o.op.operands → ∀ B, Ev A L x B → B.ok φ (a.eval x)) → ∃ v φ' w', (execOp a.eval o).run P w = .ok (.value v) w' ∧ HP ⟨w, φ, []⟩ φ' [] w' ∧ F.ok φ' v) : OpP P c o A L F := by
  intro φ a w K Q hm he hk
  obtain ⟨v, φ', w', h1, h2, h3⟩ := h φ a w hm he
  unfold Oper.wp
  rw [h1]
  exact hk φ' v w' h2 h3
theorem op_move {x : Operand} {D : VP} (h : evA A x = some D) : OpP P c ⟨d, .move x, ty, pos, af, g⟩ A L D :=
  opp fun φ a w hm he => ⟨_, rfl, he x (by simp [Op.operands]) D (.rfl' h)⟩
theorem op_assign {x : Operand} {D : VP} (h : evA A x = some D) : OpP P c ⟨d, .assign x, ty, pos, af, g⟩ A L D :=
  opp fun φ a w hm he => ⟨_, rfl, he x (by simp [Op.operands]) D (.rfl' h)⟩
theorem op_or {x y : Operand} {p q : Bool} {Y : VP} (hx : Ev A L x (Is (.bool p))) (hy : evA A y = some Y) (hs : p = false → SubL L Y (Is (.bool q))) : OpP P c ⟨d, .pick x (.const (.bool true)) y, ty, pos, af, g⟩ A L (Is (.bool (p || q))) :=
  opp fun φ a w hm he => by
    have h1 : a.eval x = .bool p := he x (by simp [Op.operands]) _ hx
    refine ⟨.bool (p || q), ?_, rfl⟩
    cases p with
    | true =>
      have hc : a.eval (.const (.bool true)) = .bool true := rfl
      simp [execOp, h1, hc, asBool]
    | false =>
      have h2 : a.eval y = .bool q := he y (by simp [Op.operands]) _ (.sub hy (hs rfl))
      simp [execOp, h1, h2, asBool]
theorem op_and {x y : Operand} {p q : Bool} {Y : VP} (hx : Ev A L x (Is (.bool p))) (hy : evA A y = some Y) (hs : p = true → SubL L Y (Is (.bool q))) : OpP P c ⟨d, .pick x y (.const (.bool false)), ty, pos, af, g⟩ A L (Is (.bool (p && q))) :=
  opp fun φ a w hm he => by
    have h1 : a.eval x = .bool p := he x (by simp [Op.operands]) _ hx
    refine ⟨.bool (p && q), ?_, rfl⟩
    cases p with
    | false =>
      have hc : a.eval (.const (.bool false)) = .bool false := rfl
      simp [execOp, h1, hc, asBool]
    | true =>
      have h2 : a.eval y = .bool q := he y (by simp [Op.operands]) _ (.sub hy (hs rfl))
      simp [execOp, h1, h2, asBool]
theorem op_bin {op : BinOp} {t u : TypeId} {x y : Operand} {k j : IntKind} {n m : Int} {r : Value} (hx : Ev A L x (Is (.int k n))) (hy : Ev A L y (Is (.int j m))) (hr : ∀ w, (binOp op t (.int k n) (.int j m)).run P w = .ok r w) :
    OpP P c ⟨d, .binOp op t x y u, ty, pos, af, g⟩ A L (Is r) :=
  opp fun φ a w hm he => by
    have h1 : a.eval x = .int k n := he x (by simp [Op.operands]) _ hx
    have h2 : a.eval y = .int j m := he y (by simp [Op.operands]) _ hy
    refine ⟨r, ?_, rfl⟩
    have h3 : (eqGuard op t x y (.int k n) (.int j m)).run P w = .ok () w := by
      unfold eqGuard
      cases op <;> rfl
    simp only [execOp, h1, h2, Sem.run_bind, h3, Result.andThen_ok, hr w, Sem.run_pure]
section ints
variable {t u : TypeId} {x y : Operand} {k : IntKind} {n m r : Int}
theorem op_add (hx : Ev A L x (Is (.int k n))) (hy : Ev A L y (Is (.int k m))) (hr : k.wrap (n + m) = r) : OpP P c ⟨d, .binOp .add t x y u, ty, pos, af, g⟩ A L (Is (.int k r)) :=
  op_bin hx hy fun w => by simp [binOp, Op.intArith, hr]
theorem op_sub (hx : Ev A L x (Is (.int k n))) (hy : Ev A L y (Is (.int k m))) (hr : k.wrap (n - m) = r) : OpP P c ⟨d, .binOp .sub t x y u, ty, pos, af, g⟩ A L (Is (.int k r)) :=
  op_bin hx hy fun w => by simp [binOp, Op.intArith, hr]
theorem op_mul (hx : Ev A L x (Is (.int k n))) (hy : Ev A L y (Is (.int k m))) (hr : k.wrap (n * m) = r) : OpP P c ⟨d, .binOp .mul t x y u, ty, pos, af, g⟩ A L (Is (.int k r)) :=
  op_bin hx hy fun w => by simp [binOp, Op.intArith, hr]
theorem op_quo (hx : Ev A L x (Is (.int k n))) (hy : Ev A L y (Is (.int k m))) (h0 : m ≠ 0) (hr : k.wrap (n.tdiv m) = r) : OpP P c ⟨d, .binOp .quo t x y u, ty, pos, af, g⟩ A L (Is (.int k r)) :=
  op_bin hx hy fun w => by simp [binOp, Op.intDiv, h0, hr]
theorem op_rem (hx : Ev A L x (Is (.int k n))) (hy : Ev A L y (Is (.int k m))) (h0 : m ≠ 0) (hr : n.tmod m = r) : OpP P c ⟨d, .binOp .rem t x y u, ty, pos, af, g⟩ A L (Is (.int k r)) :=
  op_bin hx hy fun w => by simp [binOp, Op.intDiv, h0, hr]
theorem op_lss (hx : Ev A L x (Is (.int k n))) (hy : Ev A L y (Is (.int k m))) : OpP P c ⟨d, .binOp .lss t x y u, ty, pos, af, g⟩ A L (Is (.bool (decide (n < m)))) :=
  op_bin hx hy fun w => by simp [binOp, Op.intCmp]
theorem op_leq (hx : Ev A L x (Is (.int k n))) (hy : Ev A L y (Is (.int k m))) : OpP P c ⟨d, .binOp .leq t x y u, ty, pos, af, g⟩ A L (Is (.bool (decide (n ≤ m)))) :=
  op_bin hx hy fun w => by simp [binOp, Op.intCmp]
theorem op_gtr (hx : Ev A L x (Is (.int k n))) (hy : Ev A L y (Is (.int k m))) : OpP P c ⟨d, .binOp .gtr t x y u, ty, pos, af, g⟩ A L (Is (.bool (decide (n > m)))) :=
  op_bin hx hy fun w => by simp [binOp, Op.intCmp]
theorem op_geq (hx : Ev A L x (Is (.int k n))) (hy : Ev A L y (Is (.int k m))) : OpP P c ⟨d, .binOp .geq t x y u, ty, pos, af, g⟩ A L (Is (.bool (decide (n ≥ m)))) :=
  op_bin hx hy fun w => by simp [binOp, Op.intCmp]
theorem op_eql (hx : Ev A L x (Is (.int k n))) (hy : Ev A L y (Is (.int k m))) : OpP P c ⟨d, .binOp .eql t x y u, ty, pos, af, g⟩ A L (Is (.bool (n == m))) :=
  op_bin hx hy fun w => by simp [binOp, Op.intCmp]
theorem op_neq (hx : Ev A L x (Is (.int k n))) (hy : Ev A L y (Is (.int k m))) : OpP P c ⟨d, .binOp .neq t x y u, ty, pos, af, g⟩ A L (Is (.bool (n != m))) :=
  op_bin hx hy fun w => by simp [binOp, Op.intCmp]
theorem op_bits {op : BinOp} {v : Value} (hx : Ev A L x (Is (.int k n))) (hy : Ev A L y (Is (.int k m))) (hop : op = .and ∨ op = .or ∨ op = .xor ∨ op = .andNot) (hr : Op.intBits op k n m = pure v) : OpP P c ⟨d, .binOp op t x y u, ty, pos, af, g⟩ A L (Is v) :=
  op_bin hx hy fun w => by
    rcases hop with rfl | rfl | rfl | rfl <;> simp [binOp, hr]
theorem op_shl {j : IntKind} (hx : Ev A L x (Is (.int k n))) (hy : Ev A L y (Is (.int j m))) (h0 : 0 ≤ m) (hr : k.wrap (n * 2 ^ (min m.toNat k.bits)) = r) : OpP P c ⟨d, .binOp .shl t x y u, ty, pos, af, g⟩ A L (Is (.int k r)) :=
  op_bin hx hy fun w => by
    have : ¬ m < 0 := by omega
    simp [binOp, Op.shift, this, hr]
theorem op_shr {j : IntKind} (hx : Ev A L x (Is (.int k n))) (hy : Ev A L y (Is (.int j m))) (h0 : 0 ≤ m) (hr : n.fdiv (2 ^ (min m.toNat k.bits)) = r) : OpP P c ⟨d, .binOp .shr t x y u, ty, pos, af, g⟩ A L (Is (.int k r)) :=
  op_bin hx hy fun w => by
    have : ¬ m < 0 := by omega
    simp [binOp, Op.shift, this, hr]
theorem op_not {p : Bool} (hx : Ev A L x (Is (.bool p))) : OpP P c ⟨d, .unOp .not t x, ty, pos, af, g⟩ A L (Is (.bool (!p))) :=
  opp fun φ a w hm he => by
    have h1 : a.eval x = .bool p := he x (by simp [Op.operands]) _ hx
    exact ⟨_, by simp [execOp, h1, Op.unary], rfl⟩
theorem op_neg (hx : Ev A L x (Is (.int k n))) (hr : k.wrap (0 - n) = r) : OpP P c ⟨d, .unOp .neg t x, ty, pos, af, g⟩ A L (Is (.int k r)) :=
  opp fun φ a w hm he => by
    have h1 : a.eval x = .int k n := he x (by simp [Op.operands]) _ hx
    exact ⟨.int k r, by rw [← hr]; simp [execOp, h1, Op.unary, Op.intArith], rfl⟩
theorem op_compl {v : Value} (hx : Ev A L x (Is (.int k n))) (hr : Op.intBits .xor k (if k.signed then -1 else k.max) n = pure v) : OpP P c ⟨d, .unOp .xor t x, ty, pos, af, g⟩ A L (Is v) :=
  opp fun φ a w hm he => by
    have h1 : a.eval x = .int k n := he x (by simp [Op.operands]) _ hx
    exact ⟨v, by simp [execOp, h1, Op.unary, hr], rfl⟩
theorem op_conv {src dst : TypeId} {j : IntKind} {s0 : TypeDesc} (hx : Ev A L x (Is (.int k n))) (hs : P.underlying src = some s0) (hd : P.underlying dst = some (.int j)) (hr : j.wrap n = r) : OpP P c ⟨d, .convert src dst x, ty, pos, af, g⟩ A L (Is (.int j r)) :=
  opp fun φ a w hm he => by
    have h1 : a.eval x = .int k n := he x (by simp [Op.operands]) _ hx
    refine ⟨.int j r, ?_, rfl⟩
    rw [← hr]
    simp [execOp, h1, convert, run_underlying hs, run_underlying hd, Conv.intToInt]
end ints
theorem run_val {s : Sem Value} {v : Value} {w w' : World} (h : s.run P w = .ok v w') : (do pure (Next.value (← s)) : Sem Next).run P w = .ok (.value v) w' := by
  simp only [Sem.run_bind, h, Result.andThen_ok, Sem.run_pure]
theorem run_eqIn_bool {t : TypeId} {p q : Bool} (hu : P.underlying t = some .bool) (n : Nat) (w : World) : (Op.equalIn (n + 1) t (.bool p) (.bool q)).run P w = .ok (p == q) w := by
  simp only [Op.equalIn, Sem.run_bind, run_underlying hu, Result.andThen_ok, Sem.run_pure]
theorem run_eq_bool {t : TypeId} {p q : Bool} (hu : P.underlying t = some .bool) (w : World) : (Op.equal t (.bool p) (.bool q)).run P w = .ok (p == q) w := run_eqIn_bool hu 9999 w
theorem op_beq {t u : TypeId} {x y : Operand} {p q : Bool} (hu : P.underlying t = some .bool) (hx : Ev A L x (Is (.bool p))) (hy : Ev A L y (Is (.bool q))) : OpP P c ⟨d, .binOp .eql t x y u, ty, pos, af, g⟩ A L (Is (.bool (p == q))) :=
  opp fun φ a w hm he => by
    have h1 : a.eval x = .bool p := he x (by simp [Op.operands]) _ hx
    have h2 : a.eval y = .bool q := he y (by simp [Op.operands]) _ hy
    have h3 : (eqGuard .eql t x y (.bool p) (.bool q)).run P w = .ok () w := rfl
    have h4 : (binOp .eql t (.bool p) (.bool q)).run P w = .ok (.bool (p == q)) w := by
      simp only [binOp, Sem.run_bind, run_eq_bool hu, Result.andThen_ok, Sem.run_pure]
    exact ⟨_, by simp only [execOp, h1, h2, Sem.run_bind, h3, Result.andThen_ok, h4, Sem.run_pure], rfl⟩
theorem op_bne {t u : TypeId} {x y : Operand} {p q : Bool} (hu : P.underlying t = some .bool) (hx : Ev A L x (Is (.bool p))) (hy : Ev A L y (Is (.bool q))) : OpP P c ⟨d, .binOp .neq t x y u, ty, pos, af, g⟩ A L (Is (.bool (p != q))) :=
  opp fun φ a w hm he => by
    have h1 : a.eval x = .bool p := he x (by simp [Op.operands]) _ hx
    have h2 : a.eval y = .bool q := he y (by simp [Op.operands]) _ hy
    have h3 : (eqGuard .neq t x y (.bool p) (.bool q)).run P w = .ok () w := rfl
    have h4 : (binOp .neq t (.bool p) (.bool q)).run P w = .ok (.bool (p != q)) w := by
      simp only [binOp, Sem.run_bind, run_eq_bool hu, Result.andThen_ok, Sem.run_pure]; rfl
    exact ⟨_, by simp only [execOp, h1, h2, Sem.run_bind, h3, Result.andThen_ok, h4, Sem.run_pure], rfl⟩
theorem alls_arr {φ : Fz} {As : List VP} {vs : List Value} (h : Alls φ As vs) {i : Nat} {B : VP} (hi : As[i]? = some B) : ∃ v, vs.toArray[i]? = some v ∧ B.ok φ v := by
  obtain ⟨v, h1, h2⟩ := h.get hi
  exact ⟨v, by simpa using h1, h2⟩
theorem op_extract {x : Operand} {i : Nat} {As : List VP} {B : VP} (hx : Ev A L x (IsTup As)) (hi : As[i]? = some B) : OpP P c ⟨d, .extract x i, ty, pos, af, g⟩ A L B :=
  opp fun φ a w hm he => by
    obtain ⟨vs, h1, h2⟩ : (IsTup As).ok φ (a.eval x) := he x (by simp [Op.operands]) _ hx
    obtain ⟨v, h3, h4⟩ := alls_arr h2 hi
    exact ⟨v, by simp only [execOp, h1, Instr.extract, h3]; rfl, h4⟩
theorem op_nilCheck {x : Operand} {p : Addr} (hx : Ev A L x (Is (.pointer (some p)))) : OpP P c ⟨d, .nilCheck x, ty, pos, af, g⟩ A L (Is (.pointer (some p))) :=
  opp fun φ a w hm he => by
    have h1 : a.eval x = .pointer (some p) := he x (by simp [Op.operands]) _ hx
    exact ⟨_, by simp only [execOp, h1]; rfl, rfl⟩
theorem op_nilRef {x : Operand} {As : List VP} (hx : Ev A L x (IsRef As)) : OpP P c ⟨d, .nilCheck x, ty, pos, af, g⟩ A L (IsRef As) :=
  opp fun φ a w hm he => by
    have h0 : (IsRef As).ok φ (a.eval x) := he x (by simp [Op.operands]) _ hx
    obtain ⟨b, o, h1, h2⟩ := h0
    exact ⟨_, by simp only [execOp, h1]; rfl, ⟨b, o, rfl, h2⟩⟩
/-! ### Addresses and loads -/
theorem run_sizeOf {t : TypeId} {n : Nat} (h : (P.info? t).map (·.size) = some n) (w : World) : (sizeOf t).run P w = .ok n w := by
  obtain ⟨i, h1, h2⟩ := Option.map_eq_some_iff.1 h
  simp [sizeOf, typeInfo, h1, h2]
theorem run_field {s : TypeId} {fs : Array Field} {i n : Nat} {f : Field} (hu : P.underlying s = some (.struct fs)) (hf : fs[i]? = some f) (hn : (P.info? f.type).map (·.size) = some (n + 1)) (p : Addr) (w : World) :
    (Instr.fieldAt s (.pointer (some p)) i).run P w = .ok (.pointer (some (p.add f.offset))) w := by
  simp [Instr.fieldAt, run_underlying hu, hf, Instr.sureAddr, fieldPlace, run_sizeOf hn]
theorem addr_add0 (b i k : Nat) : (⟨b, i, none⟩ : Addr).add k = ⟨b, i + k, none⟩ := Addr.add_lit b i k
theorem op_fieldPtr {s : TypeId} {x : Operand} {i n b o k : Nat} {fs : Array Field} {f : Field} (hx : Ev A L x (Is (.pointer (some ⟨b, o, none⟩)))) (hu : P.underlying s = some (.struct fs)) (hf : fs[i]? = some f) (hn : (P.info? f.type).map (·.size) = some (n + 1)) (hk : f.offset = k) :
    OpP P c ⟨d, .fieldAddr s x i, ty, pos, af, g⟩ A L (Is (.pointer (some ⟨b, o + k, none⟩))) := by
  subst hk; exact
  opp fun φ a w hm he => by
    have h1 : a.eval x = .pointer (some ⟨b, o, none⟩) := he x (by simp [Op.operands]) _ hx
    exact ⟨_, by simp only [execOp, h1, Sem.run_bind, run_field hu hf hn, Result.andThen_ok, Sem.run_pure, addr_add0], rfl⟩
theorem RefAt.drop {φ : Fz} {b o : Nat} {As : List VP} (h : RefAt φ b o As) (k : Nat) : RefAt φ b (o + k) (As.drop k) := fun j B hj => by
  rw [List.getElem?_drop] at hj
  obtain ⟨u, h1, h2⟩ := h _ B hj
  exact ⟨u, by rw [Nat.add_assoc]; exact h1, h2⟩
theorem op_fieldRef {s : TypeId} {x : Operand} {i n k : Nat} {As : List VP} {fs : Array Field} {f : Field} (hx : Ev A L x (IsRef As)) (hu : P.underlying s = some (.struct fs)) (hf : fs[i]? = some f) (hn : (P.info? f.type).map (·.size) = some (n + 1)) (hk : f.offset = k) :
    OpP P c ⟨d, .fieldAddr s x i, ty, pos, af, g⟩ A L (IsRef (As.drop k)) := by
  subst hk; exact
  opp fun φ a w hm he => by
    obtain ⟨b, o, h1, h2⟩ : (IsRef As).ok φ (a.eval x) := he x (by simp [Op.operands]) _ hx
    exact ⟨.pointer (some ⟨b, o + f.offset, none⟩), by simp only [execOp, h1, Sem.run_bind, run_field hu hf hn, Result.andThen_ok, Sem.run_pure, addr_add0], ⟨b, _, rfl, h2.drop _⟩⟩
def aggB : TypeDesc → Bool
  | .struct _ => true
  | .array _ _ => true
  | _ => false
theorem run_isAgg {t : TypeId} {D : TypeDesc} (h : P.underlying t = some D) (w : World) : (isAgg t).run P w = .ok (aggB D) w := by
  simp only [isAgg, Sem.run_bind, run_underlying h, Result.andThen_ok]
  cases D <;> rfl
theorem run_load1 {w : World} {p : Addr} {v : Value} (h : w.cell? p = some v) : (load p).run P w = .ok v w := by
  simp [load, Sem.run, h]
theorem run_loadCellsFrom {w : World} {b o : Nat} : ∀ (vs : List Value) (i : Nat) (acc : Array Value), (∀ j v, vs[j]? = some v → w.cell? ⟨b, o + (i + j), none⟩ = some v) → (loadCellsFrom ⟨b, o, none⟩ i vs.length acc).run P w = .ok (acc ++ vs.toArray) w
  | [], i, acc, _ => by simp [loadCellsFrom]
  | v :: vs, i, acc, h => by
    have h0 : w.cell? ((⟨b, o, none⟩ : Addr).add i) = some v := by rw [addr_add0]; exact h 0 v rfl
    have ih := run_loadCellsFrom (b := b) (o := o) vs (i + 1) (acc.push v) (fun j u hj => by rw [show i + 1 + j = i + (j + 1) by omega]; exact h (j + 1) u (by simpa using hj))
    simp only [List.length_cons, loadCellsFrom, Sem.run_bind, run_load1 h0, Result.andThen_ok, ih]
    simp
theorem run_loadAgg {t : TypeId} {D : TypeDesc} {n : Nat} {w : World} {b o : Nat} {vs : List Value} (hu : P.underlying t = some D) (hD : aggB D = true) (hn : (P.info? t).map (·.size) = some n) (hl : vs.length = n) (h : ∀ j v, vs[j]? = some v → w.cell? ⟨b, o + j, none⟩ = some v) :
    (loadVar t ⟨b, o, none⟩).run P w = .ok (.agg vs.toArray) w := by
  subst hl
  simp only [loadVar, Sem.run_bind, run_isAgg hu, Result.andThen_ok, hD, if_true, run_sizeOf hn, loadCells]
  rw [run_loadCellsFrom vs 0 #[] (fun j v hj => by rw [Nat.zero_add]; exact h j v hj)]
  simp
theorem run_loadOne {t : TypeId} {D : TypeDesc} {w : World} {p : Addr} {v : Value} (hu : P.underlying t = some D) (hD : aggB D = false) (h : w.cell? p = some v) : (loadVar t p).run P w = .ok v w := by
  simp only [loadVar, Sem.run_bind, run_isAgg hu, Result.andThen_ok, hD, Bool.false_eq_true, if_false]
  exact run_load1 h
theorem op_loadRef {t : TypeId} {x : Operand} {As : List VP} {B : VP} {D : TypeDesc} (hx : Ev A L x (IsRef As)) (hu : P.underlying t = some D) (hD : aggB D = false) (h0 : As[0]? = some B) : OpP P c ⟨d, .load t x, ty, pos, af, g⟩ A L B :=
  opp fun φ a w hm he => by
    obtain ⟨b, o, h1, h2⟩ : (IsRef As).ok φ (a.eval x) := he x (by simp [Op.operands]) _ hx
    obtain ⟨u, h3, h4, _⟩ := h2 0 B h0
    have h5 := hm.mem.base b _ u h3
    exact ⟨u, by simp only [execOp, h1]; exact run_val (run_loadOne hu hD h5), h4⟩
theorem refAt_alls {φ : Fz} {b : Nat} : ∀ {As : List VP} {o : Nat}, RefAt φ b o As → ∃ vs, Alls φ As vs ∧ vs.length = As.length ∧ ones vs ∧ ∀ j v, vs[j]? = some v → φ b (o + j) = some v
  | [], o, _ => ⟨[], trivial, rfl, ones_nil, fun j v h => by simp at h⟩
  | B :: As, o, h => by
    obtain ⟨u, h1, h2, hu⟩ := h 0 B rfl
    obtain ⟨vs, h3, h4, h6, h5⟩ := refAt_alls (As := As) (o := o + 1) fun j D hj => by
      obtain ⟨u, e1, e2⟩ := h (j + 1) D (by simpa using hj)
      exact ⟨u, by rw [show o + 1 + j = o + (j + 1) by omega]; exact e1, e2⟩
    refine ⟨u :: vs, ⟨h2, h3⟩, by simp [h4], ones_cons hu h6, fun j v hj => ?_⟩
    cases j with
    | zero => simp at hj; subst hj; exact h1
    | succ j => rw [show o + (j + 1) = o + 1 + j by omega]; exact h5 j v (by simpa using hj)
theorem op_loadRefs {t : TypeId} {x : Operand} {As : List VP} {n : Nat} {D : TypeDesc} (hx : Ev A L x (IsRef As)) (hu : P.underlying t = some D) (hD : aggB D = true) (hn : (P.info? t).map (·.size) = some n) (hl : Nat.ble n As.length = true) : OpP P c ⟨d, .load t x, ty, pos, af, g⟩ A L (IsAgg (As.take n)) :=
  opp fun φ a w hm he => by
    obtain ⟨b, o, h1, h2⟩ : (IsRef As).ok φ (a.eval x) := he x (by simp [Op.operands]) _ hx
    obtain ⟨vs, h3, h4, h7, h5⟩ := refAt_alls h2
    have hn' := Nat.le_of_ble_eq_true hl
    have h6 := run_loadAgg (w := w) (b := b) (o := o) (vs := vs.take n) hu hD hn (by rw [List.length_take]; omega) fun j v hj => by
      rw [List.getElem?_take] at hj
      split at hj
      · exact hm.mem.base _ _ _ (h5 j v hj)
      · cases hj
    exact ⟨_, by simp only [execOp, h1]; exact run_val h6, ⟨_, rfl, h3.take n, h7.sub fun u hu => List.mem_of_mem_take hu⟩⟩
/-- An item among one's own. -/
theorem own_blk {φ : Fz} {w : World} {b : Nat} {t : TypeId} {As : List VP} (hm : HP c φ L w) (h : blk b t As ∈ L) : ∃ vs, w.heap[b]? = some (.cells vs.toArray t (0, 0)) ∧ Alls φ As vs ∧ ones vs := by
  obtain ⟨vs, h1, h2, h3⟩ := (hm.mem.items _ h).1
  exact ⟨vs, by simpa [blk] using h1, h2, h3⟩
theorem cell_blk {w : World} {b : Nat} {t : TypeId} {vs : List Value} (h : w.heap[b]? = some (.cells vs.toArray t (0, 0))) (i : Nat) : w.cell? ⟨b, i, none⟩ = vs[i]? := by
  simp [World.cell?, h]
theorem op_loadPtr {t t0 : TypeId} {x : Operand} {b o : Nat} {As : List VP} {B : VP} {D : TypeDesc} (hx : Ev A L x (Is (.pointer (some ⟨b, o, none⟩)))) (hL : blk b t0 As ∈ L) (hu : P.underlying t = some D) (hD : aggB D = false) (h0 : As[o]? = some B) : OpP P c ⟨d, .load t x, ty, pos, af, g⟩ A L B :=
  opp fun φ a w hm he => by
    have h1 : a.eval x = .pointer (some ⟨b, o, none⟩) := he x (by simp [Op.operands]) _ hx
    obtain ⟨vs, h2, h3, h7⟩ := own_blk hm hL
    obtain ⟨u, h4, h5⟩ := h3.get h0
    have h6 := (cell_blk h2 o).trans h4
    exact ⟨u, by simp only [execOp, h1]; exact run_val (run_loadOne hu hD h6), h5⟩
theorem op_loadPtrs {t t0 : TypeId} {x : Operand} {b o n : Nat} {As : List VP} {D : TypeDesc} (hx : Ev A L x (Is (.pointer (some ⟨b, o, none⟩)))) (hL : blk b t0 As ∈ L) (hu : P.underlying t = some D) (hD : aggB D = true) (hn : (P.info? t).map (·.size) = some n) (hl : Nat.ble (o + n) As.length = true) :
    OpP P c ⟨d, .load t x, ty, pos, af, g⟩ A L (IsAgg ((As.drop o).take n)) :=
  opp fun φ a w hm he => by
    have h1 : a.eval x = .pointer (some ⟨b, o, none⟩) := he x (by simp [Op.operands]) _ hx
    obtain ⟨vs, h2, h3, h7⟩ := own_blk hm hL
    have hn' := Nat.le_of_ble_eq_true hl
    have hlen := h3.len
    have h6 := run_loadAgg (w := w) (b := b) (o := o) (vs := (vs.drop o).take n) hu hD hn (by rw [List.length_take, List.length_drop]; omega) fun j v hj => by
      rw [List.getElem?_take] at hj
      split at hj
      · rw [List.getElem?_drop] at hj
        rw [cell_blk h2]; exact hj
      · cases hj
    exact ⟨_, by simp only [execOp, h1]; exact run_val h6, ⟨_, rfl, (h3.drop o).take n, h7.sub fun u hu => List.mem_of_mem_drop (List.mem_of_mem_take hu)⟩⟩
end
end Go.Proofs.Ythppeaelfcmafaa
