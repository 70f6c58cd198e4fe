/- Rules: words as bit vectors; results of which only some are known to be; values told otherwise. Own work. -/
import Derived.Test.YthppeaelfcmafaaHi
namespace Go.Proofs.Ythppeaelfcmafaa
open Go.RowKit
set_option linter.unusedVariables false
section
variable {P : Program} {c : Ctx} {A : Nat → Option VP} {L : List Item} {d : Option Tmp} {ty : TypeId} {pos : String} {af : Array Edge} {g : Option (Nat × Bool)} {x y : Operand} {t u : TypeId}
theorem op_binU {op : BinOp} {k j : IntKind} {n m : Int} {v : Value} (hx : Ev A L x (Is (.int k n))) (hy : Ev A L y (Is (.int j m))) (h : binOp op t (.int k n) (.int j m) = pure v) : OpP P c ⟨d, .binOp op t x y u, ty, pos, af, g⟩ A L (Is v) :=
  op_bin hx hy fun w => by rw [h, Sem.run_pure]
theorem op_shlU {a : BitVec 64} {j : IntKind} {m : Int} {k : Nat} (hx : Ev A L x (Is (.int .u64 (UV a)))) (hy : Ev A L y (Is (.int j m))) (h0 : 0 ≤ m) (hk : m.toNat = k) : OpP P c ⟨d, .binOp .shl t x y u, ty, pos, af, g⟩ A L (Is (.int .u64 (UV (a <<< k)))) :=
  op_shl hx hy h0 (by rw [hk, wrap_u64_mod]; exact shl_UV a k)
theorem op_shrU {a : BitVec 64} {j : IntKind} {m : Int} {k : Nat} (hx : Ev A L x (Is (.int .u64 (UV a)))) (hy : Ev A L y (Is (.int j m))) (h0 : 0 ≤ m) (hk : m.toNat = k) : OpP P c ⟨d, .binOp .shr t x y u, ty, pos, af, g⟩ A L (Is (.int .u64 (UV (a >>> k)))) :=
  op_shr hx hy h0 (by rw [hk]; exact shr_UV a k)
theorem op_shlU32 {a : BitVec 32} {j : IntKind} {m : Int} {k : Nat} (hx : Ev A L x (Is (.int .u32 (UV a)))) (hy : Ev A L y (Is (.int j m))) (h0 : 0 ≤ m) (hk : m.toNat = k) : OpP P c ⟨d, .binOp .shl t x y u, ty, pos, af, g⟩ A L (Is (.int .u32 (UV (a <<< k)))) :=
  op_shl hx hy h0 (by rw [hk, wrap_u32_mod]; exact shl_UV a k)
theorem op_shrU32 {a : BitVec 32} {j : IntKind} {m : Int} {k : Nat} (hx : Ev A L x (Is (.int .u32 (UV a)))) (hy : Ev A L y (Is (.int j m))) (h0 : 0 ≤ m) (hk : m.toNat = k) : OpP P c ⟨d, .binOp .shr t x y u, ty, pos, af, g⟩ A L (Is (.int .u32 (UV (a >>> k)))) :=
  op_shr hx hy h0 (by rw [hk]; exact shr_UV a k)
/-- Not a shift by a word's bits: as the number says. -/
theorem uv_nonneg {w : Nat} (a : BitVec w) : 0 ≤ UV a := UV_nonneg a
theorem u64nat (n : Nat) (h : n < 18446744073709551616) : Value.int .u64 (n : Int) = .int .u64 (UV (BitVec.ofNat 64 n)) := by rw [UV_ofNat h]
end
/-- A store into memory that the stretch itself has made. -/
theorem op_storeW {P : Program} {c : Ctx} {A : Nat → Option VP} {L : List Item} {ty : TypeId} {pos : String} {af : Array Edge} {g : Option (Nat × Bool)} {t t0 : TypeId} {y : Operand} {s n : Nat} {D : VP} {As Bs : List VP} (hy : Ev A L y D) (hD : CellsOf D Bs)
    (hn : (P.info? t).map (·.size) = some n) (hB : Nat.beq Bs.length n = true) (hl : Nat.ble (0 + n) As.length = true) :
    OpW P c ⟨none, .store t (.tmp s) y, ty, pos, af, g⟩ A L s (fun b : Nat => .pointer (some ⟨b, 0, none⟩)) (fun b => blk b t0 As) (fun b => blk b t0 (ovr As 0 Bs)) := by
  intro φ a w K Q b hm h0 he hk
  have h1 : a.eval (.tmp s) = .pointer (some ⟨b, 0, none⟩) := h0
  obtain ⟨us, h2, h3, h4⟩ := hD φ _ (he y (by simp [Op.operands]) _ hy)
  obtain ⟨vs, h5, h6, h7⟩ := own_blk hm (List.mem_cons_self ..)
  have e1 := Nat.eq_of_beq_eq_true hB
  have e2 := Nat.le_of_ble_eq_true hl
  have e3 := h3.len
  have e4 := h6.len
  have hst := run_storeCells_at (P := P) b 0 t0 us 0 vs.toArray w h5 (by simp; omega) h4
  have hrun : (execOp a.eval ⟨none, .store t (.tmp s) y, ty, pos, af, g⟩).run P w = .ok .skip (w.setRow b (vs.take 0 ++ us ++ vs.drop (0 + us.length)).toArray) := by
    simp only [execOp, h1, Instr.storeAt, Instr.sureAddr, Sem.run_bind, Sem.run_pure, Result.andThen_ok, storeVar, run_sizeOf hn, h2]
    rw [if_neg (by simp; omega)]
    simp only [Nat.add_zero] at hst
    rw [hst]; rfl
  unfold Oper.wp
  rw [hrun]
  have hm1 : HP ⟨w, φ, names [blk b t0 As]⟩ φ [blk b t0 As] w := HP.start ⟨hm.mem.base, fun it hi => by rw [List.mem_singleton] at hi; subst hi; exact hm.mem.items _ (List.mem_cons_self ..), List.pairwise_singleton _ _⟩
  refine hk φ undef _ (hm1.upd (Repl.head _ _ _) (setRow_kpt _ _ _ _ (by simp [names, blk])) ?_ (fun b' hb' => .inr hb'))
  refine ⟨⟨vs.take 0 ++ us ++ vs.drop (0 + us.length), ?_, ?_, ?_⟩, fun b' hb' => ?_⟩
  · simp only [blk, Option.bind_some]
    exact setRow_heap w b _ _ _ _ h5
  · rw [ovr_get Bs As 0 (by omega), e3]
    exact ((h6.take 0).append h3).append (h6.drop _)
  · intro u hu
    simp only [List.mem_append] at hu
    rcases hu with (hu | hu) | hu
    · exact h7 u (List.mem_of_mem_take hu)
    · exact h4 u hu
    · exact h7 u (List.mem_of_mem_drop hu)
  · have := (hm.mem.items _ (List.mem_cons_self ..)).2 b' hb'
    exact ⟨by simp [World.setRow]; exact this.1, this.2⟩
/-! ### One of many -/
def VEx {ι : Type} (R : ι → VP) : VP := ⟨fun φ v => ∃ i, (R i).ok φ v, fun h ⟨i, k⟩ => ⟨i, (R i).mono h k⟩⟩
theorem Fn.ex {P : Program} {f : FuncId} {As : List VP} {ι : Type} {R : ι → VP} (h : Fn P f As [] R (fun _ => [])) : FnP P f As (VEx R) := by
  intro φ w vs h1 h2
  refine (h φ w vs h1 h2).mono ?_
  rintro e w' ⟨i, v, φ', rfl, h3, h4⟩
  exact ⟨(), v, φ', rfl, ⟨i, h3⟩, h4⟩
section
variable {P : Program} {c : Ctx} {N : Nat} {E : Env} {L : List Item} {Q : Exit → Act → World → Prop} {ops : Array Oper} {rest : List Oper}
theorem St.tell {φ : Fz} {a : Act} {w : World} (st : St c N (look E) L φ a w) {t : Nat} {B : VP} (h : B.ok φ (a.tmps.getD t undef)) : St c N (look ((t, B) :: E)) L φ a w :=
  ⟨st.defers, st.size, fun s D hD => by
    simp only [look] at hD
    cases hk : Nat.beq t s with
    | true => rw [hk] at hD; simp only [cond_true, Option.some.injEq] at hD; subst hD; rw [← Nat.eq_of_beq_eq_true hk]; exact h
    | false => rw [hk] at hD; exact st.env s D hD, st.mem⟩
theorem JC_ex {x : Code} {ι : Type} {R : ι → VP} (t : Nat) (hl : look E t = some (VEx R)) (h : ∀ i, JC P c N x ((t, R i) :: E) L Q) : JC P c N x E L Q := fun φ a w st =>
  let ⟨i, hi⟩ := st.env t _ hl
  h i φ a w (st.tell hi)
theorem JL_ex {ι : Type} {R : ι → VP} (t : Nat) (hl : look E t = some (VEx R)) (h : ∀ i, JL P ops Q c N rest ((t, R i) :: E) L) : JL P ops Q c N rest E L := fun φ a w st =>
  let ⟨i, hi⟩ := st.env t _ hl
  h i φ a w (st.tell hi)
theorem JD_ex {ι : Type} {R : ι → VP} {nd : List Nat} {k : Nat} (t : Nat) (hl : look E t = some (VEx R)) (h : ∀ i, JD P ops Q c N nd k rest ((t, R i) :: E) L) : JD P ops Q c N nd k rest E L := fun e1 e2 e3 e4 φ a w lst hp st =>
  let ⟨i, hi⟩ := st.env t _ hl
  h i e1 e2 e3 e4 φ a w lst hp (st.tell hi)
theorem JC_set {x : Code} {A : VP} (t : Nat) (B : VP) (hl : look E t = some A) (hs : SubL L A B) (h : JC P c N x ((t, B) :: E) L Q) : JC P c N x E L Q := fun φ a w st =>
  h φ a w (st.tell (hs _ _ st.mem.mem.facts (st.env t _ hl)))
theorem JL_set {A : VP} (t : Nat) (B : VP) (hl : look E t = some A) (hs : SubL L A B) (h : JL P ops Q c N rest ((t, B) :: E) L) : JL P ops Q c N rest E L := fun φ a w st =>
  h φ a w (st.tell (hs _ _ st.mem.mem.facts (st.env t _ hl)))
theorem JD_set {A : VP} {nd : List Nat} {k : Nat} (t : Nat) (B : VP) (hl : look E t = some A) (hs : SubL L A B) (h : JD P ops Q c N nd k rest ((t, B) :: E) L) : JD P ops Q c N nd k rest E L := fun e1 e2 e3 e4 φ a w lst hp st =>
  h e1 e2 e3 e4 φ a w lst hp (st.tell (hs _ _ st.mem.mem.facts (st.env t _ hl)))
end
end Go.Proofs.Ythppeaelfcmafaa
