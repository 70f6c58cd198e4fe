/- Rules: a slice against nil; an empty literal slice; append onto a literal; max and min. Own work. -/
import Derived.Test.YthppeaelfcmafaaHj
namespace Go.Proofs.Ythppeaelfcmafaa
open Go.RowKit
set_option linter.unusedVariables false
section
variable {P : Program} {c : Ctx} {A : Nat → Option VP} {L : List Item} {d : Option Tmp} {ty : TypeId} {pos : String} {af : Array Edge} {g : Option (Nat × Bool)}
variable {α : Type} {T : Ty α} {xs ys : List α} {x y : Operand} {t u e : TypeId}
theorem run_eqSlNil (hu : P.underlying t = some (.slice e)) (a : Option Addr) (n cp : Nat) (w : World) : (binOp .eql t (.slice a n cp) (.slice none 0 0)).run P w = .ok (.bool a.isNone) w := by
  have h : (Op.equalIn (9999 + 1) t (.slice a n cp) (.slice none 0 0)).run P w = .ok a.isNone w := by
    unfold Op.equalIn
    simp only [Sem.run_bind, run_underlying hu, Result.andThen_ok]
    cases a <;> rfl
  have h' : (Op.equal t (.slice a n cp) (.slice none 0 0)).run P w = .ok a.isNone w := h
  simp only [binOp, Sem.run_bind, h', Result.andThen_ok, Sem.run_pure]
theorem run_neSlNil (hu : P.underlying t = some (.slice e)) (a : Option Addr) (n cp : Nat) (w : World) : (binOp .neq t (.slice a n cp) (.slice none 0 0)).run P w = .ok (.bool !a.isNone) w := by
  have h : (Op.equalIn (9999 + 1) t (.slice a n cp) (.slice none 0 0)).run P w = .ok a.isNone w := by
    unfold Op.equalIn
    simp only [Sem.run_bind, run_underlying hu, Result.andThen_ok]
    cases a <;> rfl
  have h' : (Op.equal t (.slice a n cp) (.slice none 0 0)).run P w = .ok a.isNone w := h
  simp only [binOp, Sem.run_bind, h', Result.andThen_ok, Sem.run_pure]
theorem guard_slice (o : BinOp) (x y : Operand) (a : Option Addr) (n cp : Nat) (v : Value) (w : World) : (eqGuard o t x y (.slice a n cp) v).run P w = .ok () w := by
  cases o <;> rfl
/-- Whether a slice is nil: if it is, it is empty. -/
theorem op_eqNil (hx : Ev A L x (IsSl T xs)) (hu : P.underlying t = some (.slice e)) : OpP P c ⟨d, .binOp .eql t x (.const (.slice none 0 0)) u, ty, pos, af, g⟩ A L (VEx fun b : {b : Bool // b = true → xs = []} => Is (.bool b.1)) :=
  opp fun φ a w hm he => by
    have h1 : (IsSl T xs).ok φ (a.eval x) := he x (by simp [Op.operands]) _ hx
    obtain ⟨ad, n, cp, h2, h3, h4, h5, h6⟩ := h1
    have h7 : a.eval (.const (.slice none 0 0)) = .slice none 0 0 := rfl
    refine ⟨.bool ad.isNone, ?_, ⟨⟨ad.isNone, fun hb => ?_⟩, rfl⟩⟩
    · simp only [execOp, h2, h7, Sem.run_bind, guard_slice, Result.andThen_ok, run_eqSlNil hu, Sem.run_pure]
    · cases ad with
      | none =>
        rcases h6 with h6 | ⟨b, o, h6, _⟩
        · exact List.eq_nil_of_length_eq_zero (by omega)
        · cases h6
      | some _ => cases hb
theorem op_max {k : IntKind} {n m : Int} (hx : Ev A L x (Is (.int k n))) (hy : Ev A L y (Is (.int k m))) {ts : Array TypeId} : OpP P c ⟨d, .call { callee := .builtin .max, args := #[x, y], argTypes := ts }, ty, pos, af, g⟩ A L (Is (.int k (if m > n then m else n))) :=
  opp fun φ a w hm he => by
    have h1 : a.eval x = .int k n := he x (by simp [Op.operands, Call.operands]) _ hx
    have h2 : a.eval y = .int k m := he y (by simp [Op.operands, Call.operands]) _ hy
    refine ⟨_, ?_, rfl⟩
    have h4 : (#[x, y].map a.eval) = #[.int k n, .int k m] := by simp [h1, h2]
    simp only [execOp, resolve, h4, Sem.run_bind, Sem.run_pure, Result.andThen_ok, invoke, builtin]
    rfl
theorem op_min {k : IntKind} {n m : Int} (hx : Ev A L x (Is (.int k n))) (hy : Ev A L y (Is (.int k m))) {ts : Array TypeId} : OpP P c ⟨d, .call { callee := .builtin .min, args := #[x, y], argTypes := ts }, ty, pos, af, g⟩ A L (Is (.int k (if m < n then m else n))) :=
  opp fun φ a w hm he => by
    have h1 : a.eval x = .int k n := he x (by simp [Op.operands, Call.operands]) _ hx
    have h2 : a.eval y = .int k m := he y (by simp [Op.operands, Call.operands]) _ hy
    refine ⟨_, ?_, rfl⟩
    have h4 : (#[x, y].map a.eval) = #[.int k n, .int k m] := by simp [h1, h2]
    simp only [execOp, resolve, h4, Sem.run_bind, Sem.run_pure, Result.andThen_ok, invoke, builtin]
    rfl
/-- An empty literal slice, not nil: to be appended onto. -/
theorem op_buildSlice0 {size : Nat} {et : TypeId} (T : Ty α) (hu : P.underlying t = some (.slice et)) (hs : (P.info? et).map (·.size) = some size) :
    OpN P c ⟨d, .buildSlice t 0 #[], ty, pos, af, g⟩ A L (fun b : Nat => slV 0 (some ⟨b, 0, none⟩, 0)) (fun b => buf (slV 0 (some ⟨b, 0, none⟩, 0)) et T ([] : List α)) := by
  intro φ a w K Q hm he hk
  have hrun : (execOp a.eval ⟨d, .buildSlice t 0 #[], ty, pos, af, g⟩).run P w = .ok (.value (.slice (some ⟨w.heap.size, 0, none⟩) 0 0)) (w.alloc (.cells #[] et)) := by
    simp only [execOp]
    refine run_val ?_
    simp only [Instr.buildSlice, Sem.run_bind, run_underlying hu, Result.andThen_ok, run_sizeOf hs]
    rw [if_neg (by omega)]
    simp [Instr.fill, newRow]
    congr 2
    apply Array.ext'
    simp
  unfold Oper.wp
  rw [hrun]
  exact hk w.heap.size φ _ (hp_new (b := 0) hm rfl ⟨[], by simp, trivial, ones_nil, .inr ⟨w.heap.size, 0, #[], rfl, rfl, Nat.le_refl _, Nat.zero_le _, by simp, by simp⟩⟩)
/-- The first cells of a new block that stay. -/
theorem hp_newP {φ : Fz} {w : World} {vs rs : List Value} {As : List VP} {e : TypeId} (hm : HP c φ L w) (h : Alls φ As vs) (h1 : ones vs) : ∃ φ', Fle φ φ' ∧ HP ⟨w, φ, []⟩ φ' [] (w.alloc (.cells (vs ++ rs).toArray e)) ∧ RefAt φ' w.heap.size 0 As := by
  let φ' : Fz := fun b i => if b = w.heap.size then vs[i]? else φ b i
  have hno : ∀ i, φ w.heap.size i = none := fun i => by
    cases hφ : φ w.heap.size i with
    | none => rfl
    | some u => have := cell_lt (hm.mem.base _ _ _ hφ); omega
  have hsame : ∀ i, φ' w.heap.size i = vs[i]? := fun i => if_pos rfl
  have hoth : ∀ b i, b ≠ w.heap.size → φ' b i = φ b i := fun b i h => if_neg h
  have hle : Fle φ φ' := fun b i u hu => by
    rw [hoth b i (fun e => by subst e; rw [hno i] at hu; cases hu)]; exact hu
  refine ⟨φ', hle, ⟨⟨fun b i u hu => ?_, by simp, List.Pairwise.nil⟩, kpt_alloc _ _ _, by simp [names], fun b i hb => ?_⟩, fun j B hB => ?_⟩
  · by_cases hbg : b = w.heap.size
    · subst hbg
      rw [hsame] at hu
      rw [cell_of_row _ _ i (vs ++ rs).toArray e _ (heap_new w _)]
      have hl := (List.getElem?_eq_some_iff.1 hu).1
      rw [List.getElem?_toArray, List.getElem?_append_left hl]; exact hu
    · rw [hoth b i hbg] at hu
      have h2 := hm.mem.base b i u hu
      rw [cell_kept (Below.heap_alloc w _ b (cell_lt h2))]; exact h2
  · exact hoth b i (by have : b < w.heap.size := hb; omega)
  · obtain ⟨u, h2, h3⟩ := h.get hB
    exact ⟨u, by rw [hsame, Nat.zero_add]; exact h2, B.mono hle h3, h1 u (List.mem_of_getElem? h2)⟩
/-- append onto a literal slice: what comes back is told, the literal stays. -/
theorem op_appLit {n size : Nat} {As : List VP} (xs : List α) (hx : Ev A L x (IsRow n size As)) (hs : SubLs L As (xs.flatMap T.cells)) (hn : n = xs.length) (hsz : size = T.size) (hy : Ev A L y (IsSl T ys)) (hT : AppT P t e T.size) (hlen : xs.length + ys.length ≤ 1048576) :
    OpP P c ⟨d, .call { callee := .builtin .append, args := #[x, y], argTypes := #[t, t] }, ty, pos, af, g⟩ A L (IsSl T (xs ++ ys)) :=
  opq fun φ a w hm he => by
    obtain ⟨b, h1, h2, h3, h4⟩ : (IsRow n size As).ok φ (a.eval x) := he x (by simp [Op.operands, Call.operands]) _ hx
    obtain ⟨ad, m, cp, h5, h6⟩ : (IsSl T ys).ok φ (a.eval y) := he y (by simp [Op.operands, Call.operands]) _ hy
    obtain ⟨olds, f1, f2, f3, f4⟩ := refAt_alls h2
    have f5 : Alls φ (xs.flatMap T.cells) olds := hs.alls hm.mem.facts f1
    obtain ⟨news, n0, n1, n2, n3⟩ := sl_flat hm.mem.base h6
    obtain ⟨z, bytes, t1, t2, t3⟩ := hT.hi
    obtain ⟨i, hi, hzz⟩ := Option.map_eq_some_iff.1 t1
    simp only [Prod.mk.injEq] at hzz
    obtain ⟨hz, hsi, hb⟩ := hzz
    subst hn hsz
    have hmy : m = ys.length := h6.1
    have h7 : (#[x, y].map a.eval) = #[.slice (some ⟨b, 0, none⟩) xs.length xs.length, .slice ad m cp] := by simp [h1, h5]
    have hol : olds.length = xs.length * T.size := by rw [f2, h3]
    by_cases h0 : m = 0
    · have hys : ys = [] := List.eq_nil_of_length_eq_zero (by omega)
      subst hys
      subst h0
      refine ⟨.slice (some ⟨b, 0, none⟩) xs.length xs.length, φ, w, ?_, HP.start (L := []) ⟨hm.mem.base, by simp, List.Pairwise.nil⟩, ?_⟩
      · simp only [execOp, resolve, h7, Sem.run_bind, Sem.run_pure, Result.andThen_ok, invoke, builtin]
        cases ad <;> simp [Builtin.append_, run_underlying hT.ht, sizeOf, typeInfo, hi, Builtin.lenOf, Builtin.firstCells, storeCells, loadCells, loadCellsFrom]
      · rw [List.append_nil]
        refine ⟨_, _, _, rfl, rfl, Nat.le_refl _, h4, .inr ⟨b, 0, rfl, fun k v hk j B hB => ?_⟩⟩
        obtain ⟨u, k1, k2⟩ := flat_at (flat := olds) f5 hk hB
        exact ⟨u, by rw [Nat.zero_add]; have := f4 _ _ k1; rw [Nat.zero_add] at this; exact this, k2, f3 u (List.mem_of_getElem? k1)⟩
    · obtain ⟨b2, o2, rfl, n4⟩ := n3 h0
      subst hmy
      have hby := Nat.mul_le_mul hlen t3
      have hr := run_append_grow (P := P) w t ty e i z hT.ht hi hz ⟨b, 0, none⟩ xs.length xs.length olds (by rw [hol, hsi])
        (fun j u hu => by rw [addr_add0]; exact hm.mem.base _ _ _ (f4 j u hu)) ⟨b2, o2, none⟩ ys.length cp news (by rw [n0, hsi]) (fun j u hu => by rw [addr_add0]; exact hm.mem.base _ _ _ (n4 j u hu)) (by omega) (by omega)
        (growslice_fits (by omega) (by rw [hb]; omega))
      have hd : HP c φ L w.drew := hm.drew
      obtain ⟨φ', g1, g2, g3⟩ := hp_newP (e := e) (vs := olds ++ news) (rs := (Builtin.zeroCells z.cells (grownCap w (xs.length + ys.length) xs.length e - (xs.length + ys.length))).toList) (As := (xs ++ ys).flatMap T.cells) hd (by rw [List.flatMap_append]; exact f5.append n1) (fun u hu => by
        rcases List.mem_append.1 hu with hu | hu
        · exact f3 u hu
        · exact n2 u hu)
      have hw : olds.toArray ++ news.toArray ++ Builtin.zeroCells z.cells (grownCap w (xs.length + ys.length) xs.length e - (xs.length + ys.length)) = ((olds ++ news) ++ (Builtin.zeroCells z.cells (grownCap w (xs.length + ys.length) xs.length e - (xs.length + ys.length))).toList).toArray := by simp
      rw [hw] at hr
      refine ⟨_, φ', _, ?_, ⟨g2.mem, ⟨g2.kept.os, g2.kept.tape, g2.kept.output, g2.kept.size, g2.kept.block⟩, g2.mine, g2.old⟩, ⟨some ⟨w.heap.size, 0, none⟩, xs.length + ys.length, grownCap w (xs.length + ys.length) xs.length e, rfl, by simp, grownCap_ge w _ _ _, grownCap_le_maxLen w _ _ _ (by unfold maxLen; omega), .inr ⟨_, 0, rfl, fun k v hk j B hB => ?_⟩⟩⟩
      · simp only [execOp, resolve, h7, Sem.run_bind, Sem.run_pure, Result.andThen_ok, invoke, builtin, hr]
      · have := g3 _ B (flat_idx hk hB)
        rw [← Nat.add_assoc] at this
        exact this
end
end Go.Proofs.Ythppeaelfcmafaa
