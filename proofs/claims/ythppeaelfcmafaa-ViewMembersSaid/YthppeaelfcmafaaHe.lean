/- Rules: slices, structs, new memory, stores, calls. Own work. -/
import Derived.Test.YthppeaelfcmafaaHd
namespace Go.Proofs.Ythppeaelfcmafaa
open Go.RowKit
set_option linter.unusedVariables false
section
variable {P : Program} {c : Ctx} {A : Nat → Option VP} {L : List Item} {d : Option Tmp} {ty : TypeId} {pos : String} {af : Array Edge} {g : Option (Nat × Bool)}
/-! ### Slices -/
section
variable {α : Type} {T : Ty α} {xs : List α}
theorem run_len {t : TypeId} {e : TypeId} (hu : P.underlying t = some (.slice e)) (ts : Array TypeId) (hts : ts[0]? = some t) (rt : TypeId) (a : Option Addr) (n cp : Nat) (w : World) : (Builtin.len_ ts rt #[.slice a n cp]).run P w = .ok (.int .i64 n) w := by
  simp [Builtin.len_, hts, run_underlying hu, goInt]
theorem op_len {x : Operand} {t e : TypeId} (hx : Ev A L x (IsSl T xs)) (hu : P.underlying t = some (.slice e)) :
    OpP P c ⟨d, .call { callee := .builtin .len, args := #[x], argTypes := #[t] }, ty, pos, af, g⟩ A L (Is (.int .i64 xs.length)) :=
  opp fun φ a w hm he => by
    obtain ⟨ad, n, cp, h1, h2, _⟩ : (IsSl T xs).ok φ (a.eval x) := he x (by simp [Op.operands, Call.operands]) _ hx
    refine ⟨.int .i64 n, ?_, by rw [h2]; exact (rfl : Value.int .i64 (xs.length : Int) = _)⟩
    have h3 : (#[x].map a.eval) = #[.slice ad n cp] := by simp [h1]
    simp only [execOp, resolve, h3, Sem.run_bind, Sem.run_pure, Result.andThen_ok, invoke, builtin]
    simp only [run_len hu #[t] rfl, Result.andThen_ok]
theorem op_lenLit {x : Operand} {t e : TypeId} {ad : Option Addr} {n cp : Nat} (hx : Ev A L x (Is (.slice ad n cp))) (hu : P.underlying t = some (.slice e)) :
    OpP P c ⟨d, .call { callee := .builtin .len, args := #[x], argTypes := #[t] }, ty, pos, af, g⟩ A L (Is (.int .i64 n)) :=
  opp fun φ a w hm he => by
    have h1 : a.eval x = .slice ad n cp := he x (by simp [Op.operands, Call.operands]) _ hx
    refine ⟨.int .i64 n, ?_, rfl⟩
    have h3 : (#[x].map a.eval) = #[.slice ad n cp] := by simp [h1]
    simp only [execOp, resolve, h3, Sem.run_bind, Sem.run_pure, Result.andThen_ok, invoke, builtin]
    simp only [run_len hu #[t] rfl, Result.andThen_ok]
theorem op_index {x y : Operand} {t e : TypeId} {i : Int} {j : Nat} {k : IntKind} {z : α} (hx : Ev A L x (IsSl T xs)) (hy : Ev A L y (Is (.int k i))) (hu : P.underlying t = some (.slice e)) (hs : (P.info? e).map (·.size) = some T.size) (hi : i = j) (hz : xs[j]? = some z) :
    OpP P c ⟨d, .indexAddr t x y, ty, pos, af, g⟩ A L (IsRef (T.cells z)) :=
  opp fun φ a w hm he => by
    obtain ⟨ad, n, cp, h1, h2, h3, h4, h5⟩ : (IsSl T xs).ok φ (a.eval x) := he x (by simp [Op.operands]) _ hx
    have h6 : a.eval y = .int k i := he y (by simp [Op.operands]) _ hy
    have hlt : j < xs.length := (List.getElem?_eq_some_iff.1 hz).1
    rcases h5 with h5 | ⟨b, o, rfl, h5⟩
    · omega
    · refine ⟨.pointer (some ⟨b, o + j * T.size, none⟩), ?_, ⟨b, _, rfl, h5 j z hz⟩⟩
      have h7 : (0 : Int) ≤ i ∧ i < (n : Int) := by omega
      have h8 : i.toNat = j := by omega
      simp only [execOp, h1, h6]
      refine run_val ?_
      simp only [Instr.indexAt, asIntOf, Sem.run_bind, Sem.run_pure, Result.andThen_ok, run_underlying hu, h7, and_self, if_true, run_sizeOf hs, h8, addr_add0]
/-- A part of a slice. -/
theorem SlAt.cut {φ : Fz} {a : Option Addr} {n cp lo hi : Nat} (h : SlAt T φ a n cp xs) (h1 : lo ≤ hi) (h2 : hi ≤ n) : SlAt T φ (if cp = lo then a else a.map (·.add (lo * T.size))) (hi - lo) (cp - lo) ((xs.take hi).drop lo) := by
  obtain ⟨e1, e2, e3, e4⟩ := h
  refine ⟨by simp; omega, by omega, by omega, ?_⟩
  by_cases h0 : hi - lo = 0
  · exact .inl h0
  · rcases e4 with e4 | ⟨b, o, rfl, e4⟩
    · omega
    · refine .inr ⟨b, o + lo * T.size, ?_, fun k x hx => ?_⟩
      · rw [if_neg (by omega), Option.map_some, addr_add0]
      · rw [List.getElem?_drop] at hx
        have hlt : lo + k < hi := by
          have := (List.getElem?_eq_some_iff.1 hx).1
          rw [List.length_take] at this; omega
        rw [List.getElem?_take_of_lt hlt] at hx
        have := e4 (lo + k) x hx
        rw [Nat.add_assoc, ← Nat.add_mul]; exact this
theorem run_bound {y k : IntKind} {i : Int} {m n : Nat} (hi : i = n) (h : n ≤ m) (cd : BoundsCode) (w : World) : (Instr.sliceBound (.int k i) m cd).run P w = .ok n w := by
  subst hi
  have : (0 : Int) ≤ (n : Int) ∧ (n : Int) ≤ (m : Int) := by omega
  simp [Instr.sliceBound, asIntOf, this]
def opN (A : Nat → Option VP) (L : List Item) (dflt : Nat) : Option Operand → Nat → Prop
  | none, n => n = dflt
  | some x, n => ∃ k i, Ev A L x (Is (.int k i)) ∧ i = (n : Int)
theorem run_bounds {a : Act} {lo hi : Option Operand} {l h n cp : Nat} (hl : ∀ x, lo = some x → ∃ k, a.eval x = .int k (l : Int)) (hl0 : lo = none → l = 0) (hh : ∀ x, hi = some x → ∃ k, a.eval x = .int k (h : Int)) (hh0 : hi = none → h = n) (h1 : l ≤ h) (h2 : h ≤ n) (h3 : n ≤ cp) (w : World) :
    (Instr.sliceBounds true n cp (lo.map a.eval) (hi.map a.eval) none).run P w = .ok (l, h, cp) w := by
  have e1 : ∀ cd, (match (hi.map a.eval : Option Value), (none : Option Value) with | some v, some _ => Instr.sliceBound v cp cd | some v, none => Instr.sliceBound v cp (if true then .sliceAcap else .sliceAlen) | none, none => pure n | none, some _ => stuck "Slice: max without high" : Sem Nat).run P w = .ok h w := by
    intro cd
    cases hi with
    | none => rw [hh0 rfl]; rfl
    | some x =>
      obtain ⟨k, e⟩ := hh x rfl
      simp only [Option.map_some, e]
      exact run_bound (y := k) rfl (by omega) _ w
  cases lo with
  | none =>
    obtain rfl := hl0 rfl
    cases hi with
    | none =>
      obtain rfl := hh0 rfl
      simp [Instr.sliceBounds]
    | some x =>
      obtain ⟨k, e⟩ := hh x rfl
      simp [Instr.sliceBounds, e, run_bound (P := P) (y := k) (k := k) rfl (show h ≤ cp by omega)]
  | some y =>
    obtain ⟨k', e'⟩ := hl y rfl
    cases hi with
    | none =>
      obtain rfl := hh0 rfl
      simp [Instr.sliceBounds, e', run_bound (P := P) (y := k') (k := k') rfl h1]
    | some x =>
      obtain ⟨k, e⟩ := hh x rfl
      simp [Instr.sliceBounds, e, e', run_bound (P := P) (y := k) (k := k) rfl (show h ≤ cp by omega), run_bound (P := P) (y := k') (k := k') rfl h1]
theorem op_slice {x : Operand} {t e : TypeId} {lo hi : Option Operand} {l h : Nat} (hx : Ev A L x (IsSl T xs)) (hu : P.underlying t = some (.slice e)) (hs : (P.info? e).map (·.size) = some T.size) (hl : opN A L 0 lo l) (hh : opN A L xs.length hi h) (h1 : l ≤ h) (h2 : h ≤ xs.length) :
    OpP P c ⟨d, .slice t x lo hi none, ty, pos, af, g⟩ A L (IsSl T ((xs.take h).drop l)) :=
  opp fun φ a w hm he => by
    obtain ⟨ad, n, cp, e1, e2⟩ : (IsSl T xs).ok φ (a.eval x) := he x (by simp [Op.operands]) _ hx
    have hn := e2.1
    have hcp := e2.2.1
    have hlo : ∀ y, lo = some y → ∃ k, a.eval y = .int k (l : Int) := fun y hy => by
      subst hy
      obtain ⟨k, i, h3, h4⟩ := hl
      have h5 : a.eval y = .int k i := he y (by simp [Op.operands]) _ h3
      exact ⟨k, by rw [h5, h4]⟩
    have hhi : ∀ y, hi = some y → ∃ k, a.eval y = .int k (h : Int) := fun y hy => by
      subst hy
      obtain ⟨k, i, h3, h4⟩ := hh
      have h5 : a.eval y = .int k i := he y (by simp [Op.operands]) _ h3
      exact ⟨k, by rw [h5, h4]⟩
    have hb := run_bounds (P := P) (a := a) (lo := lo) (hi := hi) (l := l) (h := h) (n := n) (cp := cp) hlo (fun e => by subst e; exact hl) hhi (fun e => by subst e; rw [hn]; exact hh) h1 (by omega) hcp w
    refine ⟨_, ?_, ⟨_, _, _, rfl, e2.cut h1 (by omega)⟩⟩
    simp only [execOp, e1]
    refine run_val ?_
    simp only [Instr.sliceAt, Sem.run_bind, run_underlying hu, Result.andThen_ok, Instr.slice]
    simp only [Option.map_none] at hb ⊢
    simp only [hb, Result.andThen_ok, run_sizeOf hs, Sem.run_pure]
end

/-! ### Cells of a value -/
def CellsOf (A : VP) (As : List VP) : Prop := ∀ φ v, A.ok φ v → ∃ vs : List Value, v.cells = vs.toArray ∧ Alls φ As vs ∧ ones vs
theorem ones_one {v : Value} (h : v.oneCell' = true) : ones [v] := ones_cons h ones_nil
theorem cells_agg {As : List VP} : CellsOf (IsAgg As) As := fun φ v ⟨vs, e, k⟩ => ⟨vs, by rw [e]; rfl, k⟩
theorem cells_is {u : Value} (h1 : u.oneCell' = true) : CellsOf (Is u) [Is u] := fun φ v e => by
  have e' : v = u := e
  subst e'
  refine ⟨[v], ?_, ⟨rfl, trivial⟩, ones_one h1⟩
  cases v <;> first | rfl | cases h1
theorem cells_ref {As : List VP} : CellsOf (IsRef As) [IsRef As] := fun φ v ⟨b, o, e, k⟩ => ⟨[v], by rw [e]; rfl, ⟨⟨b, o, e, k⟩, trivial⟩, by rw [e]; exact ones_one rfl⟩
theorem cells_sl {α : Type} {T : Ty α} {xs : List α} : CellsOf (IsSl T xs) [IsSl T xs] := fun φ v ⟨a, n, cp, e, k⟩ => ⟨[v], by rw [e]; rfl, ⟨⟨a, n, cp, e, k⟩, trivial⟩, by rw [e]; exact ones_one rfl⟩
theorem cells_lit {vs : List Value} (h : (vs.all Value.oneCell') = true) : CellsOf (Is (.agg vs.toArray)) (vs.map Is) := fun φ v e => ⟨vs, by rw [show v = .agg vs.toArray from e]; rfl, alls_is vs, ones_all h⟩
/-! ### Structs out of parts -/
def ovr : List VP → Nat → List VP → List VP
  | As, _, [] => As
  | As, o, B :: Bs => ovr (As.set o B) (o + 1) Bs
theorem ovr_len : ∀ (Bs As : List VP) (o : Nat), (ovr As o Bs).length = As.length
  | [], _, _ => rfl
  | B :: Bs, As, o => by rw [ovr, ovr_len Bs]; simp
def fillL (place : Nat → Option (Nat × Nat)) : List VP → List (Nat × List VP) → Option (List VP)
  | As, [] => some As
  | As, (i, Bs) :: rest =>
    match place i with
    | none => none
    | some (off, size) => bif Nat.beq Bs.length size && Nat.ble (off + Bs.length) As.length then fillL place (ovr As off Bs) rest else none
def Parts (φ : Fz) : List (Nat × List VP) → List (Nat × Value) → Prop
  | [], [] => True
  | (i, Bs) :: l, (j, v) :: m => (i = j ∧ ∃ vs : List Value, v.cells = vs.toArray ∧ Alls φ Bs vs ∧ ones vs) ∧ Parts φ l m
  | _, _ => False
theorem fold_ovr {φ : Fz} : ∀ (us : List Value) (Bs : List VP) (As : List VP) (vs : List Value) (o k : Nat), Alls φ As vs → ones vs → Alls φ Bs us → ones us →
    ∃ rs : List Value, (us.zipIdx k).foldl (fun (cs : Array Value) (p : Value × Nat) => cs.setIfInBounds (o + p.2) p.1) vs.toArray = rs.toArray ∧ Alls φ (ovr As (o + k) Bs) rs ∧ ones rs
  | [], [], As, vs, o, k, h, g, _, _ => ⟨vs, rfl, h, g⟩
  | u :: us, B :: Bs, As, vs, o, k, h, g, ⟨h1, h2⟩, g2 => by
    simp only [List.zipIdx_cons, List.foldl_cons, List.setIfInBounds_toArray, ovr]
    have g3 : ones (vs.set (o + k) u) := fun x hx => by
      rcases List.mem_or_eq_of_mem_set hx with hx | rfl
      · exact g x hx
      · exact g2 _ (List.mem_cons_self ..)
    obtain ⟨rs, e1, e2⟩ := fold_ovr us Bs (As.set (o + k) B) (vs.set (o + k) u) o (k + 1) (h.set _ h1) g3 h2 (g2.sub fun x hx => List.mem_cons_of_mem _ hx)
    exact ⟨rs, e1, by rw [Nat.add_assoc]; exact e2⟩
  | [], _ :: _, _, _, _, _, _, _, h, _ => h.elim
  | _ :: _, [], _, _, _, _, _, _, h, _ => h.elim
theorem fill_ok {φ : Fz} {place : Nat → Option (Nat × Nat)} : ∀ {ps : List (Nat × List VP)} {qs : List (Nat × Value)} {As Rs : List VP} {vs : List Value}, Alls φ As vs → ones vs → Parts φ ps qs → fillL place As ps = some Rs → ∃ rs : List Value, Instr.fill place vs.toArray qs = some rs.toArray ∧ Alls φ Rs rs ∧ ones rs
  | [], [], As, Rs, vs, h, g, _, e => by
    simp only [fillL, Option.some.injEq] at e
    subst e
    exact ⟨vs, rfl, h, g⟩
  | (i, Bs) :: ps, (j, v) :: qs, As, Rs, vs, h, g, ⟨⟨hij, us, hus, hB, gB⟩, hr⟩, e => by
    subst hij
    simp only [fillL] at e
    cases hp : place i with
    | none => rw [hp] at e; cases e
    | some os =>
      obtain ⟨off, size⟩ := os
      rw [hp] at e
      dsimp only at e
      cases hc : (Nat.beq Bs.length size && Nat.ble (off + Bs.length) As.length) with
      | false => rw [hc] at e; cases e
      | true =>
        rw [hc] at e
        simp only [cond_true] at e
        simp only [Bool.and_eq_true] at hc
        have h1 := Nat.eq_of_beq_eq_true hc.1
        have h2 := Nat.le_of_ble_eq_true hc.2
        have h3 := hB.len
        have h4 := h.len
        obtain ⟨rs, f1, f2, f3⟩ := fold_ovr us Bs As vs off 0 h g hB gB
        obtain ⟨ts, g1, g2⟩ := fill_ok (vs := rs) f2 f3 hr e
        refine ⟨ts, ?_, g2⟩
        simp only [Instr.fill, hp, hus, List.size_toArray]
        rw [if_neg (by simp; omega)]
        have : us.toArray.zipIdx.foldl (fun (cs : Array Value) (p : Value × Nat) => cs.setIfInBounds (off + p.2) p.1) vs.toArray = rs.toArray := by
          rw [← f1]; simp
        rw [this]; exact g1
  | [], _ :: _, _, _, _, _, _, h, _ => h.elim
  | _ :: _, [], _, _, _, _, _, h, _ => h.elim
/-- The parts as the walk knows them. -/
def PartsE (A : Nat → Option VP) (L : List Item) : List (Nat × Operand) → List (Nat × List VP) → Prop
  | [], [] => True
  | (i, x) :: l, (j, Bs) :: m => (i = j ∧ ∃ D, Ev A L x D ∧ CellsOf D Bs) ∧ PartsE A L l m
  | _, _ => False
theorem PartsE.at_ {φ : Fz} {a : Act} : ∀ {l : List (Nat × Operand)} {m : List (Nat × List VP)}, PartsE A L l m → (∀ i x, (i, x) ∈ l → ∀ B, Ev A L x B → B.ok φ (a.eval x)) → Parts φ m (l.map fun p => (p.1, a.eval p.2))
  | [], [], _, _ => trivial
  | (i, x) :: l, (j, Bs) :: m, ⟨⟨hij, D, h1, h2⟩, h3⟩, h => ⟨⟨hij.symm, h2 φ _ (h i x (List.mem_cons_self ..) D h1)⟩, h3.at_ fun i x hx => h i x (List.mem_cons_of_mem _ hx)⟩
  | [], _ :: _, h, _ => h.elim
  | _ :: _, [], h, _ => h.elim
theorem run_zero {t : TypeId} {z : Value} (h : (P.info? t).map (·.zero) = some (some z)) (w : World) : (zeroValue t).run P w = .ok z w := by
  obtain ⟨i, h1, h2⟩ := Option.map_eq_some_iff.1 h
  simp [zeroValue, typeInfo, h1, h2]
def sizesOf (P : Program) : List Field → Option (List (Nat × Nat))
  | [] => some []
  | f :: fs => match (P.info? f.type).map (·.size), sizesOf P fs with
    | some n, some l => some ((f.offset, n) :: l)
    | _, _ => none
theorem run_places {w : World} : ∀ {fs : List Field} {l : List (Nat × Nat)}, sizesOf P fs = some l → (fs.toArray.mapM fun f => do pure (f.offset, ← sizeOf f.type) : Sem (Array (Nat × Nat))).run P w = .ok l.toArray w := by
  intro fs l h
  rw [List.mapM_toArray]
  have : ∀ {fs : List Field} {l : List (Nat × Nat)}, sizesOf P fs = some l → (fs.mapM fun f => do pure (f.offset, ← sizeOf f.type) : Sem (List (Nat × Nat))).run P w = .ok l w := by
    intro fs
    induction fs with
    | nil => intro l h; simp only [sizesOf, Option.some.injEq] at h; subst h; rfl
    | cons f fs ih =>
      intro l h
      simp only [sizesOf] at h
      split at h
      · rename_i n l' h1 h2
        injection h with h
        subst h
        rw [List.mapM_cons]
        simp only [Sem.run_bind, run_sizeOf h1, Result.andThen_ok, Sem.run_pure, ih h2]
      · cases h
  simp only [Sem.run_map, this h]
  rfl
theorem op_build {t : TypeId} {ps : Array (Nat × Operand)} {fs : List Field} {zs : List Value} {pl : List (Nat × Nat)} {qs : List (Nat × List VP)} {Rs : List VP} (hu : P.underlying t = some (.struct fs.toArray)) (hz : (P.info? t).map (·.zero) = some (some (.agg zs.toArray))) (h1 : (zs.all Value.oneCell') = true)
    (hpl : sizesOf P fs = some pl) (hq : PartsE A L ps.toList qs) (hf : fillL (fun i => pl[i]?) (zs.map Is) qs = some Rs) : OpP P c ⟨d, .build t ps, ty, pos, af, g⟩ A L (IsAgg Rs) :=
  opp fun φ a w hm he => by
    have hp := hq.at_ (φ := φ) (a := a) fun i x hx => he x (by simp only [Op.operands]; simp; exact ⟨i, by simpa using hx⟩)
    obtain ⟨rs, h1, h2⟩ := fill_ok (alls_is (φ := φ) zs) (ones_all h1) hp hf
    refine ⟨.agg rs.toArray, ?_, ⟨rs, rfl, h2⟩⟩
    simp only [execOp]
    refine run_val ?_
    have h3 : (ps.map fun x => (x.1, a.eval x.2)).toList = ps.toList.map fun p => (p.1, a.eval p.2) := by simp
    simp only [Instr.build, Sem.run_bind, run_zero hz, Result.andThen_ok, run_underlying hu, run_places hpl]
    have h4 : (fun (x : Nat) => pl.toArray[x]?) = (fun (i : Nat) => pl[i]?) := by funext x; simp
    rw [h3, h4]
    show (match Instr.fill (fun i => pl[i]?) zs.toArray (ps.toList.map fun p => (p.1, a.eval p.2)) with | some cells => pure (.agg cells) | _ => stuck _ : Sem Value).run P w = _
    rw [h1]; rfl
end
end Go.Proofs.Ythppeaelfcmafaa
