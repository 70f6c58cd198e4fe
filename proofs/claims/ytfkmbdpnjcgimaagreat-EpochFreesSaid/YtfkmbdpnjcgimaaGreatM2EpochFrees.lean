/- Texts of this claim, laid together (part 2): walks of functions, what they compute, and plain laws of it. Own work. -/
import Derived.Deep.OwnRows
import Derived.OwnWalk
import Derived.RangeFuncIn
import Derived.RangeFuncLeaves
import Derived.RangeFuncRecord
import Derived.RangeFuncCalls
import Derived.OrdersIn
import Derived.TacticsIn
import Derived.Below
import Derived.Deep.Draws
import Derived.ChangeKeysEq
import Derived.ProofKit
import Derived.Deep.Slices
import Derived.OpenShut
import Derived.Lib.AppendZerosOnto
import Derived.Test.YtfkmbdpnjcgimaaGreatM1EpochFrees
/- Rules: literal slices and made slices that one may write. Own work. -/
namespace Go.Proofs.YtfkmbdpnjcgimaaGreat
open Go.RowKit
set_option linter.unusedVariables false
set_option linter.unusedSimpArgs false
section
variable {P : Program} {c : Ctx} {A : Nat → Option VP} {L : List Item} {d : Option Tmp} {ty : TypeId} {pos : String} {af : Array Edge} {g : Option (Nat × Bool)}
variable {α : Type} {T : Ty α}
/-- A literal slice, to be written. -/
theorem op_buildSliceO (xs : List α) {t e : TypeId} {n size : Nat} {z : Value} {ps : Array (Nat × Operand)} {qs : List (Nat × List VP)} {Rs : List VP} (hu : P.underlying t = some (.slice e)) (hs : (P.info? e).map (·.size) = some size) (hz : (P.info? e).map (·.zero) = some (some z))
    (hq : PartsE A L ps.toList qs) (hf : fillL (fun i => some (i * size, size)) ((zRow (zcells z) (n * size)).map Is) qs = some Rs)
    (hn : (Nat.ble (n * size) 16777216 && Nat.blt 0 (n * size) && Nat.ble n 1000000 && (zRow (zcells z) (n * size)).all Value.oneCell' && Nat.beq xs.length n && Nat.beq size T.size) = true) (hx : SubLs L Rs (xs.flatMap T.cells)) :
    OpN P c ⟨d, .buildSlice t n ps, ty, pos, af, g⟩ A L (fun b : Nat => slV xs.length (some ⟨b, 0, none⟩, n)) (fun b => buf (slV xs.length (some ⟨b, 0, none⟩, n)) e T xs) := by
  intro φ a w K Q hm he hk
  simp only [Bool.and_eq_true] at hn
  obtain ⟨⟨⟨⟨⟨n1, n2⟩, n3⟩, n4⟩, n5⟩, n6⟩ := hn
  have m1 := Nat.le_of_ble_eq_true n1
  have m2 : 0 < n * size := Nat.le_of_ble_eq_true n2
  have m3 := Nat.le_of_ble_eq_true n3
  have m5 := Nat.eq_of_beq_eq_true n5
  have m6 := Nat.eq_of_beq_eq_true n6
  have hp := hq.at_ (φ := φ) (a := a) fun i x hx => he x (by simp only [Op.operands]; simp; exact ⟨i, by simpa using hx⟩)
  obtain ⟨rs, h1, h2, h3⟩ := fill_ok (alls_is (φ := φ) (zRow (zcells z) (n * size))) (ones_all n4) hp hf
  have h5 := hx.alls hm.mem.facts h2
  have hl : rs.length = n * size := by rw [← h5.len, flatT_len, m5, m6]
  have hrun : (execOp a.eval ⟨d, .buildSlice t n ps, ty, pos, af, g⟩).run P w = .ok (.value (.slice (some ⟨w.heap.size, 0, none⟩) n n)) (w.alloc (.cells rs.toArray e)) := by
    simp only [execOp]
    refine run_val ?_
    have e1 : (ps.map fun x => (x.1, a.eval x.2)).toList = ps.toList.map fun p => (p.1, a.eval p.2) := by simp
    have e2 : ((Array.range (n * size)).map fun x => z.cells[x % z.cells.size]!) = (zRow (zcells z) (n * size)).toArray := by
      unfold zRow zcells
      rw [Array.toArray_toList]
      apply Array.ext'
      simp
    simp only [Instr.buildSlice, Sem.run_bind, run_underlying hu, Result.andThen_ok, run_sizeOf hs]
    rw [if_neg (by omega)]
    have e4 : ¬ n * size = 0 := by omega
    simp only [if_neg e4, Sem.run_bind, run_zero hz, Result.andThen_ok, Sem.run_pure, e1, e2, h1, newRow, run_newObj_alloc]
  unfold Oper.wp
  rw [hrun]
  have hv : Value.slice (some ⟨w.heap.size, 0, none⟩) n n = slV xs.length (some ⟨w.heap.size, 0, none⟩, n) := by rw [m5]; rfl
  rw [hv]
  refine hk w.heap.size φ _ (hp_new (b := 0) hm rfl ⟨rs, by rw [hl, m5, m6], h5, h3, .inr ⟨w.heap.size, n, rs.toArray, rfl, rfl, by omega, by unfold maxLen; omega, by simp [hl, m6], ?_⟩⟩)
  rw [m5, ← m6, ← hl]
  simp
end
section
variable {P : Program} {c : Ctx} {N : Nat} {E : Env} {L : List Item} {Q Q' : Exit → Act → World → Prop}
/-- The ways meet behind a code that is followed by another. -/
theorem JC_cutT {x y : Code} {ι : Type} (I : ι → Prop) (Ef : ι → Env) (Lf : ι → List Item) (h2 : ∀ i, I i → JC P c N y (Ef i) (Lf i) Q) (h1 : JC P c N x E L (Exit.then (Meet c N I Ef Lf) Q')) : JC P c N x E L (Exit.then (y.wp P Q) Q') := by
  refine fun φ a w st => Code.wp_mono ?_ (h1 φ a w st)
  intro e a w h
  cases e with
  | normal => obtain ⟨i, φ, hi, st⟩ := h; exact h2 i hi φ a w st
  | exit id => exact h
  | goto l => exact h
  | ret => exact h
  | panic ch => exact h
  | outgrown => exact h
end
/-! ### Less memory, in another order -/
theorem Apart.symm {x y : Item} (h : Apart x y) : Apart y x := fun b hb hx => h b hx hb
inductive Drop1 : List Item → Item → List Item → Prop
  | here (it : Item) (L : List Item) : Drop1 (it :: L) it L
  | next (x : Item) {it : Item} {L L' : List Item} (h : Drop1 L it L') : Drop1 (x :: L) it (x :: L')
inductive SubP : List Item → List Item → Prop
  | nil (L : List Item) : SubP [] L
  | cons {it : Item} {L L1 M : List Item} (h : Drop1 L it L1) (h2 : SubP M L1) : SubP (it :: M) L
theorem Drop1.mem {L L' : List Item} {it : Item} (h : Drop1 L it L') : it ∈ L ∧ ∀ x, x ∈ L' → x ∈ L := by
  induction h with
  | here it L => exact ⟨List.mem_cons_self .., fun x hx => List.mem_cons_of_mem _ hx⟩
  | next y h ih => exact ⟨List.mem_cons_of_mem _ ih.1, fun x hx => by
      rcases List.mem_cons.1 hx with rfl | hx
      · exact List.mem_cons_self ..
      · exact List.mem_cons_of_mem _ (ih.2 x hx)⟩
theorem Drop1.sep {L L' : List Item} {it : Item} (h : Drop1 L it L') (hs : L.Pairwise Apart) : L'.Pairwise Apart ∧ ∀ x, x ∈ L' → Apart it x := by
  induction h with
  | here it L => exact ⟨(List.pairwise_cons.1 hs).2, (List.pairwise_cons.1 hs).1⟩
  | next y h ih =>
    obtain ⟨h1, h2⟩ := List.pairwise_cons.1 hs
    obtain ⟨h3, h4⟩ := ih h2
    refine ⟨List.pairwise_cons.2 ⟨fun x hx => h1 x (h.mem.2 x hx), h3⟩, fun x hx => ?_⟩
    rcases List.mem_cons.1 hx with rfl | hx
    · exact (h1 _ h.mem.1).symm
    · exact h4 x hx
theorem SubP.mem {L M : List Item} (h : SubP M L) : ∀ x, x ∈ M → x ∈ L := by
  induction h with
  | nil L => simp
  | cons h h2 ih => intro x hx; rcases List.mem_cons.1 hx with rfl | hx
                    · exact h.mem.1
                    · exact h.mem.2 x (ih x hx)
theorem SubP.sep {L M : List Item} (h : SubP M L) : L.Pairwise Apart → M.Pairwise Apart := by
  induction h with
  | nil L => intro _; exact List.Pairwise.nil
  | cons h h2 ih => intro hs; exact List.pairwise_cons.2 ⟨fun x hx => (h.sep hs).2 x (h2.mem x hx), ih (h.sep hs).1⟩
theorem HP.lessP {c : Ctx} {φ : Fz} {L L' : List Item} {w : World} (h : HP c φ L w) (hs : SubP L' L) : HP c φ L' w :=
  ⟨⟨h.mem.base, fun it hi => h.mem.items it (hs.mem it hi), hs.sep h.mem.sep⟩, h.kept, fun b hb => by
    obtain ⟨x, hx, hxb⟩ := mem_names.1 hb
    exact h.mine b (mem_names.2 ⟨x, hs.mem x hx, hxb⟩), h.old⟩
section
variable {P : Program} {c : Ctx} {N : Nat} {E : Env} {L : List Item} {Q Q' : Exit → Act → World → Prop}
theorem JD_sub {ops : Array Oper} {rest : List Oper} {nd : List Nat} {k : Nat} {L' : List Item} (hs : SubP L' L) (h : JD P ops Q c N nd k rest E L') : JD P ops Q c N nd k rest E L := fun e1 e2 e3 e4 φ a w lst hp st => h e1 e2 e3 e4 φ a w lst hp ⟨st.defers, st.size, st.env, st.mem.lessP hs⟩
theorem SubP.refl' : ∀ L : List Item, SubP L L
  | [] => .nil _
  | it :: L => .cons (.here it L) (SubP.refl' L)
theorem JD_front {ops : Array Oper} {rest : List Oper} {nd : List Nat} {k : Nat} {it : Item} {L' : List Item} (hs : Drop1 L it L') (h : JD P ops Q c N nd k rest E (it :: L')) : JD P ops Q c N nd k rest E L := JD_sub (.cons hs (SubP.refl' _)) h
theorem JQ_meetP {ι : Type} {I : ι → Prop} {Ef : ι → Env} {Lf : ι → List Item} {K : Exit → Act → World → Prop} (i : ι) (hi : I i) (hE : ESub L E (Ef i)) (hL : SubP (Lf i) L) : JQ c N E L (Exit.then (Meet c N I Ef Lf) K) .normal := fun φ a w st =>
  ⟨i, φ, hi, ⟨(st.less hE (List.Sublist.refl _)).defers, (st.less hE (List.Sublist.refl _)).size, (st.less hE (List.Sublist.refl _)).env, st.mem.lessP hL⟩⟩
theorem JQ_roundP {ι : Type} {I : ι → Prop} {Ef : ι → Env} {Lf : ι → List Item} {μ : ι → Nat} {n : Nat} {K : Exit → Act → World → Prop} (i : ι) (hi : I i) (hμ : μ i < n) (hE : ESub L E (Ef i)) (hL : SubP (Lf i) L) : JQ c N E L (Exit.then (Round c N I Ef Lf μ n) K) .normal := fun φ a w st =>
  ⟨i, φ, hi, hμ, ⟨(st.less hE (List.Sublist.refl _)).defers, (st.less hE (List.Sublist.refl _)).size, (st.less hE (List.Sublist.refl _)).env, st.mem.lessP hL⟩⟩
theorem St.lessP {E' : Env} {L' : List Item} {φ : Fz} {a : Act} {w : World} (h : St c N (look E) L φ a w) (hE : ESub L E E') (hL : SubP L' L) : St c N (look E') L' φ a w :=
  ⟨h.defers, h.size, (h.less hE (List.Sublist.refl _)).env, h.mem.lessP hL⟩
theorem JC_loopP {x : Code} {ι : Type} (I : ι → Prop) (Ef : ι → Env) (Lf : ι → List Item) (μ : ι → Nat) (i0 : ι) (h0 : I i0) (hE : ESub L E (Ef i0)) (hL : SubP (Lf i0) L)
    (round : ∀ i, I i → JC P c N x (Ef i) (Lf i) (Exit.then (Round c N I Ef Lf μ (μ i)) Q)) : JC P c N (Code.loop x) E L Q := by
  intro φ a w st
  refine wp_loop_ghost (fun n a w => ∃ i φ, I i ∧ μ i = n ∧ St c N (look (Ef i)) (Lf i) φ a w) (μ i0) ⟨i0, φ, h0, rfl, st.lessP hE hL⟩ ?_
  rintro n a w ⟨i, φ, hi, rfl, st⟩
  refine Code.wp_mono ?_ (round i hi φ a w st)
  intro e a w h
  cases e with
  | normal => obtain ⟨i', φ, hi', hlt, st⟩ := h; exact ⟨μ i', hlt, i', φ, hi', rfl, st⟩
  | exit id => exact h
  | goto l => exact h
  | ret => exact h
  | panic ch => exact h
  | outgrown => exact h
theorem JQ_retP {fn : Func} {ι : Type} {R : ι → VP} {L' : ι → List Item} {rs : List ResultVar} {Bs : List VP} (hr : fn.results = rs.toArray) (hE : RetE P E L rs Bs) (i : ι) (hB : SubL L (retVP Bs) (R i)) (hL : SubP (L' i) L) (hD0 : c.ds = [] := by first | assumption | exact And.right (by assumption)) : JQ c N E L (bodyPost P fn (Post c R L')) .ret := by
  intro φ a w st
  obtain ⟨vs, h1, h2⟩ := run_results (A := look E) st hE
  have hlen := h2.len
  have hrun : (results fn a.tmps).run P w = .ok (if h : vs.toArray.size = 1 then vs.toArray[0] else .tuple vs.toArray) w := by
    unfold results
    rw [hr, List.mapM_toArray]
    simp only [Sem.run_bind, Sem.run_map, Sem.run_pure]
    erw [h1]
    rfl
  refine bodyPost_ret hrun (st.defers.trans hD0) ⟨i, _, φ, rfl, hB _ _ st.mem.mem.facts ?_, st.mem.lessP hL⟩
  match Bs, vs, h2 with
  | [], [], _ => exact ⟨[], rfl, trivial⟩
  | [B], [v], h => exact h.1
  | B :: B' :: Bs, v :: v' :: vs, h => exact ⟨_, rfl, h⟩
end
end Go.Proofs.YtfkmbdpnjcgimaaGreat

/- Rules: words as bit vectors; results of which only some are known to be; values told otherwise. Own work. -/
namespace Go.Proofs.YtfkmbdpnjcgimaaGreat
open Go.RowKit
set_option linter.unusedVariables false
set_option linter.unusedSimpArgs false
section
variable {P : Program} {c : Ctx} {A : Nat → Option VP} {L : List Item} {d : Option Tmp} {ty : TypeId} {pos : String} {af : Array Edge} {g : Option (Nat × Bool)} {x y : Operand} {t u : TypeId}
theorem op_binU {op : BinOp} {k j : IntKind} {n m : Int} {v : Value} (hx : Ev A L x (Is (.int k n))) (hy : Ev A L y (Is (.int j m))) (h : binOp op t (.int k n) (.int j m) = pure v) : OpP P c ⟨d, .binOp op t x y u, ty, pos, af, g⟩ A L (Is v) :=
  op_bin hx hy fun w => by rw [h, Sem.run_pure]
theorem op_shlU {a : BitVec 64} {j : IntKind} {m : Int} {k : Nat} (hx : Ev A L x (Is (.int .u64 (UV a)))) (hy : Ev A L y (Is (.int j m))) (h0 : 0 ≤ m) (hk : m.toNat = k) : OpP P c ⟨d, .binOp .shl t x y u, ty, pos, af, g⟩ A L (Is (.int .u64 (UV (a <<< k)))) :=
  op_shl hx hy h0 (by rw [hk, wrap_u64_mod]; exact shl_UV a k)
theorem op_shrU {a : BitVec 64} {j : IntKind} {m : Int} {k : Nat} (hx : Ev A L x (Is (.int .u64 (UV a)))) (hy : Ev A L y (Is (.int j m))) (h0 : 0 ≤ m) (hk : m.toNat = k) : OpP P c ⟨d, .binOp .shr t x y u, ty, pos, af, g⟩ A L (Is (.int .u64 (UV (a >>> k)))) :=
  op_shr hx hy h0 (by rw [hk]; exact shr_UV a k)
theorem op_shlU32 {a : BitVec 32} {j : IntKind} {m : Int} {k : Nat} (hx : Ev A L x (Is (.int .u32 (UV a)))) (hy : Ev A L y (Is (.int j m))) (h0 : 0 ≤ m) (hk : m.toNat = k) : OpP P c ⟨d, .binOp .shl t x y u, ty, pos, af, g⟩ A L (Is (.int .u32 (UV (a <<< k)))) :=
  op_shl hx hy h0 (by rw [hk, wrap_u32_mod]; exact shl_UV a k)
theorem op_shrU32 {a : BitVec 32} {j : IntKind} {m : Int} {k : Nat} (hx : Ev A L x (Is (.int .u32 (UV a)))) (hy : Ev A L y (Is (.int j m))) (h0 : 0 ≤ m) (hk : m.toNat = k) : OpP P c ⟨d, .binOp .shr t x y u, ty, pos, af, g⟩ A L (Is (.int .u32 (UV (a >>> k)))) :=
  op_shr hx hy h0 (by rw [hk]; exact shr_UV a k)
end
/-! ### One of many -/
def VEx {ι : Type} (R : ι → VP) : VP := ⟨fun φ v => ∃ i, (R i).ok φ v, fun h ⟨i, k⟩ => ⟨i, (R i).mono h k⟩⟩
theorem Fn.ex {P : Program} {f : FuncId} {As : List VP} {ι : Type} {R : ι → VP} (h : Fn P f As [] R (fun _ => [])) : FnP P f As (VEx R) := by
  intro φ w vs h1 h2
  refine (h φ w vs h1 h2).mono ?_
  rintro e w' ⟨i, v, φ', rfl, h3, h4⟩
  exact ⟨(), v, φ', rfl, ⟨i, h3⟩, h4⟩
section
variable {P : Program} {c : Ctx} {N : Nat} {E : Env} {L : List Item} {Q : Exit → Act → World → Prop} {ops : Array Oper} {rest : List Oper}
theorem St.tell {φ : Fz} {a : Act} {w : World} (st : St c N (look E) L φ a w) {t : Nat} {B : VP} (h : B.ok φ (a.tmps.getD t undef)) : St c N (look ((t, B) :: E)) L φ a w :=
  ⟨st.defers, st.size, fun s D hD => by
    simp only [look] at hD
    cases hk : Nat.beq t s with
    | true => rw [hk] at hD; simp only [cond_true, Option.some.injEq] at hD; subst hD; rw [← Nat.eq_of_beq_eq_true hk]; exact h
    | false => rw [hk] at hD; exact st.env s D hD, st.mem⟩
theorem JC_set {x : Code} {A : VP} (t : Nat) (B : VP) (hl : look E t = some A) (hs : SubL L A B) (h : JC P c N x ((t, B) :: E) L Q) : JC P c N x E L Q := fun φ a w st =>
  h φ a w (st.tell (hs _ _ st.mem.mem.facts (st.env t _ hl)))
theorem JL_set {A : VP} (t : Nat) (B : VP) (hl : look E t = some A) (hs : SubL L A B) (h : JL P ops Q c N rest ((t, B) :: E) L) : JL P ops Q c N rest E L := fun φ a w st =>
  h φ a w (st.tell (hs _ _ st.mem.mem.facts (st.env t _ hl)))
end
end Go.Proofs.YtfkmbdpnjcgimaaGreat

/- Rules: a slice against nil; an empty literal slice; append onto a literal; max and min. Own work. -/
namespace Go.Proofs.YtfkmbdpnjcgimaaGreat
open Go.RowKit
set_option linter.unusedVariables false
set_option linter.unusedSimpArgs false
section
variable {P : Program} {c : Ctx} {A : Nat → Option VP} {L : List Item} {d : Option Tmp} {ty : TypeId} {pos : String} {af : Array Edge} {g : Option (Nat × Bool)}
variable {α : Type} {T : Ty α} {xs ys : List α} {x y : Operand} {t u e : TypeId}
end
end Go.Proofs.YtfkmbdpnjcgimaaGreat

/- Rules: made slices. Own work. -/
namespace Go.Proofs.YtfkmbdpnjcgimaaGreat
open Go.RowKit
set_option linter.unusedVariables false
set_option linter.unusedSimpArgs false
section
variable {P : Program} {c : Ctx} {A : Nat → Option VP} {L : List Item} {d : Option Tmp} {ty : TypeId} {pos : String} {af : Array Edge} {g : Option (Nat × Bool)}
variable {α : Type} {x y : Operand} {t e : TypeId}
end
end Go.Proofs.YtfkmbdpnjcgimaaGreat

/- Rules: arrays by address. Own work. -/
namespace Go.Proofs.YtfkmbdpnjcgimaaGreat
open Go.RowKit
set_option linter.unusedVariables false
set_option linter.unusedSimpArgs false
section
variable {P : Program} {c : Ctx} {A : Nat → Option VP} {L : List Item} {d : Option Tmp} {ty : TypeId} {pos : String} {af : Array Edge} {g : Option (Nat × Bool)}
variable {x y : Operand} {t e : TypeId}
/-- The address of an array's element. -/
theorem op_indexArr {b o len sz k : Nat} {j : Int} {q : IntKind} (hx : Ev A L x (Is (.pointer (some ⟨b, o, none⟩)))) (hy : Ev A L y (Is (.int q j))) (hu : P.underlying t = some (.array len e)) (hs : (P.info? e).map (·.size) = some sz) (hj : j = k) (hk : k < len) :
    OpP P c ⟨d, .indexAddr t x y, ty, pos, af, g⟩ A L (Is (.pointer (some ⟨b, o + k * sz, none⟩))) :=
  opp fun φ a w hm he => by
    have h1 : a.eval x = .pointer (some ⟨b, o, none⟩) := he x (by simp [Op.operands]) _ hx
    have h6 : a.eval y = .int q j := he y (by simp [Op.operands]) _ hy
    refine ⟨_, ?_, rfl⟩
    have h7 : (0 : Int) ≤ j ∧ j < (len : Int) := by omega
    have h8 : j.toNat = k := by omega
    simp only [execOp, h1, h6]
    refine run_val ?_
    simp only [Instr.indexAt, asIntOf, Sem.run_bind, Sem.run_pure, Result.andThen_ok, run_underlying hu, Instr.sureAddr, h7, and_self, if_true, run_sizeOf hs, h8, addr_add0]
/-- A block of one's own stays as it is from here on. -/
theorem HP.freezeB {φ : Fz} {w : World} {b : Nat} {t : TypeId} {As : List VP} {L' : List Item} {p0 : Prop} (hX : c.X = [] ∧ p0) (hm : HP c φ L w) (hr : Repl L (blk b t As) (fact (.pointer (some ⟨b, 0, none⟩)) (IsRef As)) L') : ∃ φ', Fle φ φ' ∧ HP c φ' L' w := by
  obtain ⟨vs, e1, f1, f2⟩ := own_blk hm hr.mem
  have hit := hm.mem.items _ hr.mem
  have hown : ∀ i, φ b i = none := fun i => (hit.2 b rfl).2 i
  let φ' : Fz := fun b' i => if b' = b then vs[i]? else φ b' i
  have hsame : ∀ i, φ' b i = vs[i]? := fun i => if_pos rfl
  have hoth : ∀ b' i, b' ≠ b → φ' b' i = φ b' i := fun b' i h => if_neg h
  have hle : Fle φ φ' := fun b' i u hu => by
    rw [hoth b' i (fun e => by subst e; rw [hown i] at hu; cases hu)]; exact hu
  have hg0 : c.w.heap.size ≤ b := (hm.mine b (mem_names.2 ⟨_, hr.mem, rfl⟩)).resolve_right (by rw [hX.1]; simp)
  refine ⟨φ', hle, ⟨⟨fun b' i u hu => ?_, fun x hx => ?_, hr.sep hm.mem.sep fun x hx _ _ => ⟨fun b _ (hb : none = some b) => (nomatch hb), fun b (hb : none = some b) => (nomatch hb)⟩⟩, hm.kept, fun b' hb => ?_, fun b' i hb => ?_⟩⟩
  · by_cases hbg : b' = b
    · subst hbg
      rw [hsame] at hu
      rw [cell_blk e1]; exact hu
    · rw [hoth b' i hbg] at hu
      exact hm.mem.base b' i u hu
  · rcases hr.mem' hx with rfl | ⟨hx', hap⟩
    · refine ⟨⟨b, 0, rfl, fun j B hB => ?_⟩, fun b (hb : none = some b) => (nomatch hb)⟩
      obtain ⟨u, h1, h2⟩ := f1.get hB
      exact ⟨u, by rw [hsame, Nat.zero_add]; exact h1, B.mono hle h2, f2 u (List.mem_of_getElem? h1)⟩
    · obtain ⟨h1, h2⟩ := hm.mem.items x hx'
      refine ⟨x.mono hle h1, fun b' hb => ⟨(h2 b' hb).1, fun i => ?_⟩⟩
      rw [hoth b' i (fun e => (hap hm.mem.sep).1 b' hb (by rw [e]; rfl))]
      exact (h2 b' hb).2 i
  · obtain ⟨x, hx, hxb⟩ := mem_names.1 hb
    rcases hr.mem' hx with rfl | ⟨hx', _⟩
    · cases hxb
    · exact hm.mine b' (mem_names.2 ⟨x, hx', hxb⟩)
  · rw [hoth b' i (by omega)]
    exact hm.old b' i hb
variable {Q : Exit → Act → World → Prop} {N : Nat} {ops : Array Oper} {rest : List Oper} {E : Env} {b : Nat} {As : List VP} {L' : List Item}
theorem JC_freezeB {x : Code} {p0 : Prop} (hX : c.X = [] ∧ p0) (hr : Repl L (blk b t As) (fact (.pointer (some ⟨b, 0, none⟩)) (IsRef As)) L') (h : JC P c N x E L' Q) : JC P c N x E L Q := fun φ a w st =>
  let ⟨φ', h1, h2⟩ := HP.freezeB hX st.mem hr
  h φ' a w ⟨st.defers, st.size, fun t B hB => B.mono h1 (st.env t B hB), h2⟩
end
end Go.Proofs.YtfkmbdpnjcgimaaGreat

/- Rules: functions that hold values. Own work. -/
namespace Go.Proofs.YtfkmbdpnjcgimaaGreat
open Go.RowKit
set_option linter.unusedVariables false
set_option linter.unusedSimpArgs false
/-- A function and what it holds. -/
def IsFn (f : FuncId) (Cs : List VP) : VP := ⟨fun φ v => ∃ cs : List Value, v = .func (.func f) #[] cs.toArray ∧ Alls φ Cs cs, fun h ⟨cs, e, k⟩ => ⟨cs, e, k.mono h⟩⟩
section
variable {P : Program} {c : Ctx} {A : Nat → Option VP} {L : List Item} {d : Option Tmp} {ty : TypeId} {pos : String} {af : Array Edge} {g : Option (Nat × Bool)}
theorem op_callFn {f : FuncId} {x : Operand} {xs : List Operand} {ts : Array TypeId} {As Cs : List VP} {R : VP} (hx : Ev A L x (IsFn f Cs)) (hc : ∀ (args : Array Value) (w : World), (callFunc f args).run P w = .ok (.enter f args) w)
    (hF : FnP P f (As ++ Cs) R) (ha : ArgsE A L xs As) : OpP P c ⟨d, .call { callee := .value x, args := xs.toArray, argTypes := ts }, ty, pos, af, g⟩ A L R := by
  intro φ a w K Q hm he hk
  obtain ⟨cap, h1, h2⟩ : (IsFn f Cs).ok φ (a.eval x) := he x (by simp [Op.operands, Call.operands]) _ hx
  have hv := ha.alls (φ := φ) (a := a) fun x hx => he x (by simp [Op.operands, Call.operands, hx])
  have hrun : (execOp a.eval ⟨d, .call { callee := .value x, args := xs.toArray, argTypes := ts }, ty, pos, af, g⟩).run P w = .ok (.enter f (xs.map a.eval ++ cap).toArray) w := by
    simp only [execOp, resolve, h1, Deferred.ofValue, Sem.run_bind, Sem.run_pure, Result.andThen_ok, invoke, hc]
    simp
  unfold Oper.wp
  rw [hrun]
  refine (hF φ w _ (hv.append h2) ⟨hm.mem.base, by simp, List.Pairwise.nil⟩).mono ?_
  rintro e w' ⟨i, v, φ', rfl, h1, h2⟩
  exact hk φ' v w' (by simpa [names] using h2) h1
theorem op_makeFunc {f : FuncId} {xs : List Operand} {Cs : List VP} (ha : ArgsE A L xs Cs) : OpP P c ⟨d, .makeFunc (.func f) #[] xs.toArray, ty, pos, af, g⟩ A L (IsFn f Cs) :=
  opp fun φ a w hm he => by
    have hv := ha.alls (φ := φ) (a := a) fun x hx => he x (by simp [Op.operands, hx])
    exact ⟨_, by simp only [execOp]; exact run_val (by simp [Instr.makeFunc]; rfl), ⟨xs.map a.eval, by simp, hv⟩⟩
end
end Go.Proofs.YtfkmbdpnjcgimaaGreat

/- Rules: a slice of an array that stays. Own work. -/
namespace Go.Proofs.YtfkmbdpnjcgimaaGreat
open Go.RowKit
set_option linter.unusedVariables false
set_option linter.unusedSimpArgs false
section
variable {P : Program} {c : Ctx} {A : Nat → Option VP} {L : List Item} {d : Option Tmp} {ty : TypeId} {pos : String} {af : Array Edge} {g : Option (Nat × Bool)}
variable {α : Type} {T : Ty α}
/-- An element of an array that stays. -/
theorem op_indexRef (xs : List α) {x y : Operand} {t e : TypeId} {n j : Nat} {i : Int} {k : IntKind} {z : α} {As : List VP} (hx : Ev A L x (IsRef As)) (hy : Ev A L y (Is (.int k i))) (hu : P.underlying t = some (.array n e)) (hs : (P.info? e).map (·.size) = some T.size) (hn : xs.length = n) (h : SubLs L (As.take (n * T.size)) (xs.flatMap T.cells)) (hi : i = j) (hz : xs[j]? = some z) :
    OpP P c ⟨d, .indexAddr t x y, ty, pos, af, g⟩ A L (IsRef (T.cells z)) := by
  intro φ a w K Q hh he hk
  obtain ⟨b, o, h1, h2⟩ : (IsRef As).ok φ (a.eval x) := he x (by simp [Op.operands]) _ hx
  have h6 : a.eval y = .int k i := he y (by simp [Op.operands]) _ hy
  have hlt : j < xs.length := (List.getElem?_eq_some_iff.1 hz).1
  have hrun : (execOp a.eval ⟨d, .indexAddr t x y, ty, pos, af, g⟩).run P w = .ok (.value (.pointer (some ⟨b, o + j * T.size, none⟩))) w := by
    have h7 : (0 : Int) ≤ i ∧ i < (n : Int) := by omega
    have h8 : i.toNat = j := by omega
    simp only [execOp, h1, h6]
    refine run_val ?_
    simp only [Instr.indexAt, asIntOf, Sem.run_bind, Sem.run_pure, Result.andThen_ok, run_underlying hu, h7, and_self, if_true, run_sizeOf hs, h8, addr_add0, Instr.sureAddr]
  unfold Oper.wp
  rw [hrun]
  refine hk φ _ w hh.idle ⟨b, _, rfl, fun q B hB => ?_⟩
  obtain ⟨D, h3, h4⟩ := subLs_get (Bs := []) h (flat_idx hz hB)
  have h5 : As[j * T.size + q]? = some D := by
    rw [List.getElem?_take] at h3
    split at h3
    · exact h3
    · cases h3
  obtain ⟨u, h6, h7, h8⟩ := h2 _ D h5
  exact ⟨u, by rw [Nat.add_assoc]; exact h6, h4 φ u hh.mem.facts h7, h8⟩
end
end Go.Proofs.YtfkmbdpnjcgimaaGreat

/- Rules: memory of one's own lent to a call that only reads it. Own work. -/
namespace Go.Proofs.YtfkmbdpnjcgimaaGreat
open Go.RowKit
set_option linter.unusedVariables false
set_option linter.unusedSimpArgs false
/-- What is one's own, told as if it stayed. -/
inductive LendL : List Item → List Item → Prop
  | nil : LendL [] []
  | keep (it : Item) {L L' : List Item} (h : LendL L L') : LendL (it :: L) (it :: L')
  | buf {α : Type} {v : Value} {e : TypeId} {T : Ty α} {xs : List α} {L L' : List Item} (h : LendL L L') : LendL (buf v e T xs :: L) (fact v (IsSl T xs) :: L')
  | blk {b : Nat} {t : TypeId} {As : List VP} {L L' : List Item} (h : LendL L L') : LendL (blk b t As :: L) (fact (.pointer (some ⟨b, 0, none⟩)) (IsRef As) :: L')
theorem Repl.mid (it it' : Item) (L : List Item) : ∀ M : List Item, Repl (M ++ it :: L) it it' (M ++ it' :: L)
  | [] => .head it it' L
  | x :: M => .tail x (Repl.mid it it' L M)
theorem Mem.ctx {φ : Fz} {L : List Item} {w : World} (hm : Mem φ L w) : HP ⟨{ w with heap := #[] }, φ, [], []⟩ φ L w :=
  ⟨hm, ⟨rfl, rfl, rfl, Nat.zero_le _, fun k hk => absurd hk (by simp)⟩, fun b _ => .inl (Nat.zero_le _), fun _ _ _ => rfl⟩
theorem LendL.mem {L L' : List Item} (h : LendL L L') : ∀ (M : List Item) (φ : Fz) (w : World), Mem φ (M ++ L) w → ∃ φ', Fle φ φ' ∧ Mem φ' (M ++ L') w := by
  induction h with
  | nil => exact fun M φ w hm => ⟨φ, Fle.rfl', hm⟩
  | keep it h ih =>
    intro M φ w hm
    obtain ⟨φ', h1, h2⟩ := ih (M ++ [it]) φ w (by simpa using hm)
    exact ⟨φ', h1, by simpa using h2⟩
  | @buf α v e T xs L L' h ih =>
    intro M φ w hm
    obtain ⟨φ1, h1, h2⟩ := HP.freeze (c := ⟨{ w with heap := #[] }, φ, [], []⟩) ⟨rfl, trivial⟩ hm.ctx (Repl.mid (Go.Proofs.YtfkmbdpnjcgimaaGreat.buf v e T xs) (fact v (IsSl T xs)) L M)
    obtain ⟨φ', h3, h4⟩ := ih (M ++ [fact v (IsSl T xs)]) φ1 w (by simpa using h2.mem)
    exact ⟨φ', h1.tr h3, by simpa using h4⟩
  | @blk b t As L L' h ih =>
    intro M φ w hm
    obtain ⟨φ1, h1, h2⟩ := HP.freezeB (c := ⟨{ w with heap := #[] }, φ, [], []⟩) ⟨rfl, trivial⟩ hm.ctx (Repl.mid (Go.Proofs.YtfkmbdpnjcgimaaGreat.blk b t As) (fact (.pointer (some ⟨b, 0, none⟩)) (IsRef As)) L M)
    obtain ⟨φ', h3, h4⟩ := ih (M ++ [fact (.pointer (some ⟨b, 0, none⟩)) (IsRef As)]) φ1 w (by simpa using h2.mem)
    exact ⟨φ', h1.tr h3, by simpa using h4⟩
/-- A value that names no memory. -/
def PureV (R : VP) : Prop := ∀ φ φ' v, R.ok φ v → R.ok φ' v
theorem pure_is {u : Value} : PureV (Is u) := fun _ _ _ h => h
def PureVs : List VP → Prop
  | [] => True
  | A :: As => PureV A ∧ PureVs As
theorem PureVs.alls {φ φ' : Fz} : ∀ {As : List VP} {vs : List Value}, PureVs As → Alls φ As vs → Alls φ' As vs
  | [], [], _, _ => trivial
  | A :: As, v :: vs, ⟨h1, h2⟩, ⟨h3, h4⟩ => ⟨h1 _ _ _ h3, h2.alls h4⟩
theorem pure_tup {As : List VP} (h : PureVs As) : PureV (IsTup As) := fun _ _ _ ⟨vs, e, k⟩ => ⟨vs, e, h.alls k⟩
section
variable {P : Program} {c : Ctx} {A : Nat → Option VP} {L : List Item} {d : Option Tmp} {ty : TypeId} {pos : String} {af : Array Edge} {g : Option (Nat × Bool)}
end
end Go.Proofs.YtfkmbdpnjcgimaaGreat

/- Rules: slices of arrays of one's own; copy into them; three-index slices. Own work. -/
namespace Go.Proofs.YtfkmbdpnjcgimaaGreat
open Go.RowKit
set_option linter.unusedVariables false
set_option linter.unusedSimpArgs false
section
variable {P : Program} {c : Ctx} {A : Nat → Option VP} {L : List Item} {d : Option Tmp} {ty : TypeId} {pos : String} {af : Array Edge} {g : Option (Nat × Bool)}
variable {α : Type} {T : Ty α}
theorem flat_take {xs : List α} : ∀ m : Nat, (xs.take m).flatMap T.cells = (xs.flatMap T.cells).take (m * T.size) := by
  induction xs with
  | nil => intro m; simp
  | cons x xs ih =>
    intro m
    cases m with
    | zero => simp
    | succ m =>
      rw [List.take_succ_cons, List.flatMap_cons, List.flatMap_cons, ih, List.take_append, T.len x, List.take_of_length_le (l := T.cells x) (by rw [T.len]; rw [Nat.add_mul]; omega)]
      congr 2; rw [Nat.add_mul]; omega
end
end Go.Proofs.YtfkmbdpnjcgimaaGreat

/- The rules again, what memory holds told as one list. Own work. -/
namespace Go.Proofs.YtfkmbdpnjcgimaaGreat
open Go.RowKit
set_option linter.unusedVariables false
set_option linter.unusedSimpArgs false
section
variable {P : Program} {c : Ctx} {A : Nat → Option VP} {L : List Item} {d : Option Tmp} {ty : TypeId} {pos : String} {af : Array Edge} {g : Option (Nat × Bool)}
theorem op_allocN {t : TypeId} {z : Value} {Rs : List VP} (hz : (P.info? t).map (·.zero) = some (some z)) (hR : (zcells z).map Is = Rs) (h1 : ((zcells z).all Value.oneCell') = true) : OpN P c ⟨d, .alloc t, ty, pos, af, g⟩ A L (fun b : Nat => .pointer (some ⟨b, 0, none⟩)) (fun b => blk b t Rs) := by
  subst hR; exact op_alloc hz h1
theorem op_storeN {t t0 : TypeId} {x y : Operand} {b o n : Nat} {D : VP} {As Bs Rs : List VP} {L' : List Item} (hx : Ev A L x (Is (.pointer (some ⟨b, o, none⟩)))) (hy : Ev A L y D) (hD : CellsOf D Bs) (hr : Repl L (blk b t0 As) (blk b t0 Rs) L')
    (hR : ovr As o Bs = Rs) (hn : (P.info? t).map (·.size) = some n) (hB : Nat.beq Bs.length n = true) (hl : Nat.ble (o + n) As.length = true) : OpS P c ⟨d, .store t x y, ty, pos, af, g⟩ A L (fun _ : Unit => Is undef) (fun _ => L') := by
  subst hR; exact op_store hx hy hD hr hn hB hl
theorem op_loadPtrsN {t t0 : TypeId} {x : Operand} {b o n : Nat} {As Rs : List VP} {D : TypeDesc} (hx : Ev A L x (Is (.pointer (some ⟨b, o, none⟩)))) (hL : blk b t0 As ∈ L) (hu : P.underlying t = some D) (hD : aggB D = true) (hn : (P.info? t).map (·.size) = some n) (hl : Nat.ble (o + n) As.length = true) (hR : (As.drop o).take n = Rs) :
    OpP P c ⟨d, .load t x, ty, pos, af, g⟩ A L (IsAgg Rs) := by
  subst hR; exact op_loadPtrs hx hL hu hD hn hl
theorem op_loadRefsN {t : TypeId} {x : Operand} {As Rs : List VP} {n : Nat} {D : TypeDesc} (hx : Ev A L x (IsRef As)) (hu : P.underlying t = some D) (hD : aggB D = true) (hn : (P.info? t).map (·.size) = some n) (hl : Nat.ble n As.length = true) (hR : As.take n = Rs) : OpP P c ⟨d, .load t x, ty, pos, af, g⟩ A L (IsAgg Rs) := by
  subst hR; exact op_loadRefs hx hu hD hn hl
theorem op_fieldRefN {s : TypeId} {x : Operand} {i n k : Nat} {As Rs : List VP} {fs : Array Field} {f : Field} (hx : Ev A L x (IsRef As)) (hu : P.underlying s = some (.struct fs)) (hf : fs[i]? = some f) (hn : (P.info? f.type).map (·.size) = some (n + 1)) (hk : f.offset = k) (hR : As.drop k = Rs) :
    OpP P c ⟨d, .fieldAddr s x i, ty, pos, af, g⟩ A L (IsRef Rs) := by
  subst hR; exact op_fieldRef hx hu hf hn hk
theorem op_buildN {t : TypeId} {ps : Array (Nat × Operand)} {fs : List Field} {zs : List Value} {pl : List (Nat × Nat)} {qs : List (Nat × List VP)} {Rs0 Rs : List VP} (hu : P.underlying t = some (.struct fs.toArray)) (hz : (P.info? t).map (·.zero) = some (some (.agg zs.toArray))) (h1 : (zs.all Value.oneCell') = true)
    (hpl : sizesOf P fs = some pl) (hq : PartsE A L ps.toList qs) (hf : fillL (fun i => pl[i]?) (zs.map Is) qs = some Rs0) (hR : Rs0 = Rs) : OpP P c ⟨d, .build t ps, ty, pos, af, g⟩ A L (IsAgg Rs) := by
  subst hR; exact op_build hu hz h1 hpl hq hf
theorem Repl.same {L L' : List Item} {it it' : Item} (h : Repl L it it' L') : it = it' → L' = L := by
  induction h with
  | head a b L => rintro rfl; rfl
  | tail x h ih => intro e; rw [ih e]
/-- What lies in memory, told otherwise. -/
theorem JC_blkEq {Q : Exit → Act → World → Prop} {N : Nat} {E : Env} {b : Nat} {t : TypeId} {As As' : List VP} {L' : List Item} {x : Code} (hr : Repl L (blk b t As) (blk b t As') L') (h : As = As') (k : JC P c N x E L' Q) : JC P c N x E L Q := by
  subst h
  rw [hr.same rfl] at k; exact k
end
end Go.Proofs.YtfkmbdpnjcgimaaGreat

/- Rules: append onto what the stretch itself has made. Own work. -/
namespace Go.Proofs.YtfkmbdpnjcgimaaGreat
open Go.RowKit
set_option linter.unusedVariables false
set_option linter.unusedSimpArgs false
section
variable {P : Program} {c : Ctx} {A : Nat → Option VP} {L : List Item} {d : Option Tmp} {ty : TypeId} {pos : String} {af : Array Edge} {g : Option (Nat × Bool)}
variable {α : Type} {T : Ty α} {xs ys : List α}
end
end Go.Proofs.YtfkmbdpnjcgimaaGreat

/- Inside a fence: regions, tests, blocks, loops; functions that hold a range over a function. Own work. -/
namespace Go.Proofs.YtfkmbdpnjcgimaaGreat
open Go.RowKit
set_option linter.unusedVariables false
set_option linter.unusedSimpArgs false
section
variable {P : Program} {r : Option Nat} {n : Nat}
/-! ### Judgements -/
variable {c : Ctx} {N : Nat} {E : Env} {L : List Item} {Q : Exit → Act → World → Prop}
/-! ### Loops over functions: their record, the block behind it -/
end
end Go.Proofs.YtfkmbdpnjcgimaaGreat

/- A loop over a function: its rounds, the call of yield, the statement. Own work. -/
namespace Go.Proofs.YtfkmbdpnjcgimaaGreat
open Go.RowKit
set_option linter.unusedVariables false
set_option linter.unusedSimpArgs false
section
variable {P : Program} {r : Option Nat} {n : Nat} {c : Ctx} {N : Nat} {E : Env} {L : List Item} {Q : Exit → Act → World → Prop} {ops : Array Oper} {rest : List Oper}
variable {d : Option Tmp} {ty : TypeId} {pos : String} {af : Array Edge} {t : Tmp} {op : Op}
/-! ### A round -/
end
end Go.Proofs.YtfkmbdpnjcgimaaGreat

/- Contracts whose results lie in new memory; lending to them. Own work. -/
namespace Go.Proofs.YtfkmbdpnjcgimaaGreat
open Go.RowKit
set_option linter.unusedVariables false
set_option linter.unusedSimpArgs false
/-- What is known to stay from block B on. -/
def fresh (B : Nat) (φ : Fz) : Fz := fun b i => if B ≤ b then φ b i else none
theorem fresh_le (B : Nat) (φ : Fz) : Fle (fresh B φ) φ := fun b i v e => by
  unfold fresh at e
  split at e
  · exact e
  · cases e
theorem fresh_mono {B : Nat} {φ φ' : Fz} (h : Fle φ φ') : Fle (fresh B φ) (fresh B φ') := fun b i v e => by
  unfold fresh at e ⊢
  split at e
  · rename_i hb; rw [if_pos hb]; exact h _ _ _ e
  · cases e
def FreshV (B : Nat) (A : VP) : VP := ⟨fun φ v => A.ok (fresh B φ) v, fun h k => A.mono (fresh_mono h) k⟩
theorem SubL.fresh {L : List Item} {B : Nat} {A : VP} : SubL L (FreshV B A) A := fun φ v _ h => A.mono (fresh_le B φ) h
/-- A result that names only memory from block B on. -/
def FreshR (R : Nat → VP) : Prop := ∀ B B' φ φ' v, B' ≤ B → Fle (fresh B φ) (fresh B' φ') → (R B).ok φ v → (R B').ok φ' v
def FreshRs : List (Nat → VP) → Prop
  | [] => True
  | R :: Rs => FreshR R ∧ FreshRs Rs
theorem FreshRs.alls {B B' : Nat} {φ φ' : Fz} (hB : B' ≤ B) (h : Fle (fresh B φ) (fresh B' φ')) : ∀ {Rs : List (Nat → VP)} {vs : List Value}, FreshRs Rs → Alls φ (Rs.map fun R => R B) vs → Alls φ' (Rs.map fun R => R B') vs
  | [], [], _, _ => trivial
  | R :: Rs, v :: vs, ⟨h1, h2⟩, ⟨h3, h4⟩ => ⟨h1 _ _ _ _ _ hB h h3, FreshRs.alls hB h h2 h4⟩
section
variable {P : Program} {c : Ctx} {A : Nat → Option VP} {L : List Item} {d : Option Tmp} {ty : TypeId} {pos : String} {af : Array Edge} {g : Option (Nat × Bool)}
/-- A call that hands back own memory. -/
theorem JQ_buf0 {α : Type} {Q : Exit → Act → World → Prop} {N : Nat} {E : Env} {ex : Exit} (e : TypeId) (T : Ty α) (h : JQ c N E (buf (.slice none 0 0) e T [] :: L) Q ex) : JQ c N E L Q ex := fun φ a w st =>
  h φ a w ⟨st.defers, st.size, st.env, st.mem.buf0 e T⟩
/-- What lies in memory, told by less. -/
theorem JQ_blkSub {Q : Exit → Act → World → Prop} {N : Nat} {E : Env} {b : Nat} {t : TypeId} {As As' : List VP} {L' : List Item} {ex : Exit} (hr : Repl L (blk b t As) (blk b t As') L') (h : SubLs L As As') (k : JQ c N E L' Q ex) : JQ c N E L Q ex := fun φ a w st => by
  refine k φ a w ⟨st.defers, st.size, st.env, st.mem.upd hr (Kpt.refl _ _) ?_ fun b' hb' => .inr hb'⟩
  obtain ⟨⟨vs, h1, h2, h3⟩, h4⟩ := st.mem.mem.items _ hr.mem
  exact ⟨⟨vs, h1, h.alls st.mem.mem.facts h2, h3⟩, h4⟩
theorem JC_blkSub {Q : Exit → Act → World → Prop} {N : Nat} {E : Env} {b : Nat} {t : TypeId} {As As' : List VP} {L' : List Item} {x : Code} (hr : Repl L (blk b t As) (blk b t As') L') (h : SubLs L As As') (k : JC P c N x E L' Q) : JC P c N x E L Q := fun φ a w st => by
  refine k φ a w ⟨st.defers, st.size, st.env, st.mem.upd hr (Kpt.refl _ _) ?_ fun b' hb' => .inr hb'⟩
  obtain ⟨⟨vs, h1, h2, h3⟩, h4⟩ := st.mem.mem.items _ hr.mem
  exact ⟨⟨vs, h1, h.alls st.mem.mem.facts h2, h3⟩, h4⟩
end
end Go.Proofs.YtfkmbdpnjcgimaaGreat

/- Short names for the tactics that every walk uses. Own work. -/
namespace Go.Proofs.YtfkmbdpnjcgimaaGreat
open Go.RowKit
set_option linter.unusedVariables false
set_option linter.unusedSimpArgs false
theorem subT {L : List Item} {A B : VP} (h : SubL L A B := by (repeat' (first | exact SubL.rfl' | exact SubL.nil | exact SubL.top | exact SubL.fresh | exact trivial | refine SubL.agg ?_ | refine SubL.tup ?_ | exact SubL.fact (by repeat (first | exact List.Mem.head _ | apply List.Mem.tail)) | refine SubL.row (by rfl) (by rfl) ?_ | refine SubL.lit rfl ?_ | refine SubL.iteT (by first | assumption | (simp; done) | (simp; omega) | (simp_all; done)) ?_ | exact SubL.eq (congrArg Is (u64lit (by first | decide | omega))) | exact SubL.eq (congrArg Is (u32lit (by first | decide | omega))) | refine ⟨?_, ?_⟩))) : SubL L A B := h
theorem subsT {L : List Item} {A B : List VP} (h : SubLs L A B := by (repeat' (first | exact SubL.rfl' | exact SubL.nil | exact SubL.top | exact SubL.fresh | exact trivial | refine SubL.agg ?_ | refine SubL.tup ?_ | exact SubL.fact (by repeat (first | exact List.Mem.head _ | apply List.Mem.tail)) | refine SubL.row (by rfl) (by rfl) ?_ | refine SubL.lit rfl ?_ | refine SubL.iteT (by first | assumption | (simp; done) | (simp; omega) | (simp_all; done)) ?_ | exact SubL.eq (congrArg Is (u64lit (by first | decide | omega))) | exact SubL.eq (congrArg Is (u32lit (by first | decide | omega))) | refine ⟨?_, ?_⟩))) : SubLs L A B := h
theorem subzT {L : List Item} {A B : List VP} (h : SubLs L A B := by (repeat' (first | exact SubL.rfl' | exact trivial | exact SubL.eq (congrArg Is (u64lit (by first | decide | omega))) | exact SubL.eq (congrArg Is (u32lit (by first | decide | omega))) | refine ⟨?_, ?_⟩))) : SubLs L A B := h
theorem evS {A : Nat → Option VP} {L : List Item} {x : Operand} {B : VP} (h : Ev A L x B := by (first | exact Ev.rfl' rfl | exact Ev.sub rfl (by (repeat' (first | exact SubL.rfl' | exact SubL.nil | exact SubL.top | exact SubL.fresh | exact trivial | refine SubL.agg ?_ | refine SubL.tup ?_ | exact SubL.fact (by repeat (first | exact List.Mem.head _ | apply List.Mem.tail)) | refine SubL.row (by rfl) (by rfl) ?_ | refine SubL.lit rfl ?_ | refine SubL.iteT (by first | assumption | (simp; done) | (simp; omega) | (simp_all; done)) ?_ | exact SubL.eq (congrArg Is (u64lit (by first | decide | omega))) | exact SubL.eq (congrArg Is (u32lit (by first | decide | omega))) | refine ⟨?_, ?_⟩))))) : Ev A L x B := h
theorem evG {A : Nat → Option VP} {L : List Item} {x : Operand} {B : VP} (h : Ev A L x B := by (first | exact Ev.rfl' rfl | exact Ev.sub rfl (SubL.iteT (by first | assumption | (simp; done) | (simp; omega) | (simp_all; done)) SubL.rfl'))) : Ev A L x B := h
theorem evG2 {A : Nat → Option VP} {L : List Item} {x : Operand} {B : VP} (h : Ev A L x B := by (first | exact Ev.sub rfl (SubL.iteT (by first | assumption | (simp; done) | (simp; omega) | (simp_all; done)) SubL.rfl') | exact Ev.rfl' rfl)) : Ev A L x B := h
theorem ev64 {A : Nat → Option VP} {L : List Item} {x : Operand} {B : VP} (h : Ev A L x B := by (first | exact Ev.rfl' rfl | exact Ev.sub rfl (SubL.eq (congrArg Is (u64lit (by first | decide | omega)))))) : Ev A L x B := h
theorem ev32 {A : Nat → Option VP} {L : List Item} {x : Operand} {B : VP} (h : Ev A L x B := by (first | exact Ev.rfl' rfl | exact Ev.sub rfl (SubL.eq (congrArg Is (u32lit (by first | decide | omega)))))) : Ev A L x B := h
theorem ev64g {A : Nat → Option VP} {L : List Item} {x : Operand} {B : VP} (h : Ev A L x B := by (first | exact Ev.rfl' rfl | exact Ev.sub rfl (SubL.iteT (by first | assumption | (simp; done) | (simp; omega) | (simp_all; done)) SubL.rfl') | exact Ev.sub rfl (SubL.eq (congrArg Is (u64lit (by first | decide | omega)))) | exact Ev.sub rfl (SubL.iteT (by first | assumption | (simp; done) | (simp; omega) | (simp_all; done)) (SubL.eq (congrArg Is (u64lit (by first | decide | omega))))))) : Ev A L x B := h
theorem ev32g {A : Nat → Option VP} {L : List Item} {x : Operand} {B : VP} (h : Ev A L x B := by (first | exact Ev.rfl' rfl | exact Ev.sub rfl (SubL.iteT (by first | assumption | (simp; done) | (simp; omega) | (simp_all; done)) SubL.rfl') | exact Ev.sub rfl (SubL.eq (congrArg Is (u32lit (by first | decide | omega)))) | exact Ev.sub rfl (SubL.iteT (by first | assumption | (simp; done) | (simp; omega) | (simp_all; done)) (SubL.eq (congrArg Is (u32lit (by first | decide | omega))))))) : Ev A L x B := h
theorem memT {a : Item} {l : List Item} (h : a ∈ l := by (repeat (first | exact List.Mem.head _ | apply List.Mem.tail))) : a ∈ l := h
theorem replT {L L' : List Item} {a b : Item} (h : Repl L a b L' := by (repeat (first | exact Repl.head _ _ _ | apply Repl.tail))) : Repl L a b L' := h
theorem cellsT {A : VP} {As : List VP} (h : CellsOf A As := by (first | exact cells_agg | exact cells_is rfl | exact cells_sl | exact cells_ref | exact cells_lit rfl)) : CellsOf A As := h
theorem wrapT {k : IntKind} {n r : Int} (h : k.wrap n = r := by (first | exact wI64 (by omega) | exact wU64 (by omega) | exact wU32 (by omega) | rfl)) : k.wrap n = r := h
theorem convT {k : IntKind} {n r : Int} (h : k.wrap n = r := by (first | with_reducible exact to_u64_64 _ | with_reducible exact to_u32_32 _ | with_reducible exact to_u8_8 _ | with_reducible exact to_u64_8 _ | with_reducible exact to_u64_32 _ | with_reducible exact to_u8_64 _ | with_reducible exact to_u32_64 _ | with_reducible exact to_i64_8 _ | with_reducible exact to_i64_32 _ | exact wI64 (by first | omega | assumption) | exact wU64 (by omega) | exact wU32 (by omega) | with_reducible exact to_i64_64 _ | with_reducible exact to_u64_int _ | with_reducible exact to_u32_int _ | with_reducible exact to_u8_int _ | rfl)) : k.wrap n = r := h
theorem lendT {L L' : List Item} (h : LendL L L' := by (repeat (first | with_reducible exact LendL.nil | with_reducible apply LendL.buf | with_reducible apply LendL.blk | with_reducible apply LendL.keep))) : LendL L L' := h
theorem esubT {L : List Item} {E E' : Env} (h : ESub L E E' := by ((repeat (refine ⟨⟨_, rfl, (by (repeat' (first | exact SubL.rfl' | exact SubL.nil | exact SubL.top | exact SubL.fresh | exact trivial | refine SubL.agg ?_ | refine SubL.tup ?_ | exact SubL.fact (by repeat (first | exact List.Mem.head _ | apply List.Mem.tail)) | refine SubL.row (by rfl) (by rfl) ?_ | refine SubL.lit rfl ?_ | refine SubL.iteT (by first | assumption | (simp; done) | (simp; omega) | (simp_all; done)) ?_ | exact SubL.eq (congrArg Is (u64lit (by first | decide | omega))) | exact SubL.eq (congrArg Is (u32lit (by first | decide | omega))) | refine ⟨?_, ?_⟩)))⟩, ?_⟩)); exact trivial)) : ESub L E E' := h
theorem lessT {L M : List Item} (h : SubP M L := by (repeat (first | exact SubP.nil _ | refine SubP.cons (by repeat (first | exact Drop1.here _ _ | apply Drop1.next)) ?_))) : SubP M L := h
theorem lenT {p : Prop} (h : p := by (first | omega | (simp; done) | (simp; omega))) : p := h
theorem idxT {p : Prop} (h : p := by (first | rfl | assumption | omega)) : p := h
end Go.Proofs.YtfkmbdpnjcgimaaGreat

/- Rules: a call that changes memory of one's own that is handed to it. Own work. -/
namespace Go.Proofs.YtfkmbdpnjcgimaaGreat
open Go.RowKit
set_option linter.unusedVariables false
set_option linter.unusedSimpArgs false
theorem ieq {a b : Int} (h : a = b) : Is (.int .i64 a) = Is (.int .i64 b) := by rw [h]
section
variable {P : Program} {c : Ctx} {A : Nat → Option VP} {L : List Item} {d : Option Tmp} {ty : TypeId} {pos : String} {af : Array Edge} {g : Option (Nat × Bool)}
theorem drop1T {L L' : List Item} {it : Item} (h : Drop1 L it L' := by repeat (first | exact Drop1.here _ _ | apply Drop1.next)) : Drop1 L it L' := h
theorem op_callT {f : FuncId} {xs : List Operand} {ts : Array TypeId} {As : List VP} {it : Item} {L1 : List Item} {ι : Type} {R : ι → VP} {L' : ι → List Item} (hd : Drop1 L it L1) (hc : ∀ (args : Array Value) (w : World), (callFunc f args).run P w = .ok (.enter f args) w)
    (hF : Fn P f As [it] R L') (ha : ArgsE A L xs As) : OpS P c ⟨d, .call { callee := .value (.func f), args := xs.toArray, argTypes := ts }, ty, pos, af, g⟩ A L R (fun i => L' i ++ L1) := by
  intro φ a w K Q hm he hk
  have hv := ha.alls (φ := φ) (a := a) fun x hx => he x (by simp [Op.operands, Call.operands, hx])
  have hm' : HP c φ ([it] ++ L1) w := hm.lessP (.cons hd (SubP.refl' _))
  unfold Oper.wp
  rw [run_enter hc]
  refine (hF φ w _ hv hm'.mem.left).mono ?_
  rintro e w' ⟨i, v, φ', rfl, h1, h2⟩
  exact hk i φ' v w' (h2.fle hm.mem.base) h1 (hm'.call h2)
theorem op_callT2 {f : FuncId} {xs : List Operand} {ts : Array TypeId} {As : List VP} {it it2 : Item} {L1 L2 : List Item} {ι : Type} {R : ι → VP} {L' : ι → List Item} (hd : Drop1 L it L1) (hd2 : Drop1 L1 it2 L2) (hc : ∀ (args : Array Value) (w : World), (callFunc f args).run P w = .ok (.enter f args) w)
    (hF : Fn P f As [it, it2] R L') (ha : ArgsE A L xs As) : OpS P c ⟨d, .call { callee := .value (.func f), args := xs.toArray, argTypes := ts }, ty, pos, af, g⟩ A L R (fun i => L' i ++ L2) := by
  intro φ a w K Q hm he hk
  have hv := ha.alls (φ := φ) (a := a) fun x hx => he x (by simp [Op.operands, Call.operands, hx])
  have hm' : HP c φ ([it, it2] ++ L2) w := hm.lessP (.cons hd (.cons hd2 (SubP.refl' _)))
  unfold Oper.wp
  rw [run_enter hc]
  refine (hF φ w _ hv hm'.mem.left).mono ?_
  rintro e w' ⟨i, v, φ', rfl, h1, h2⟩
  exact hk i φ' v w' (h2.fle hm.mem.base) h1 (hm'.call h2)
end
end Go.Proofs.YtfkmbdpnjcgimaaGreat

/- A call to which own memory is lent and that hands back own memory. Own work. -/
namespace Go.Proofs.YtfkmbdpnjcgimaaGreat
open Go.RowKit
set_option linter.unusedVariables false
set_option linter.unusedSimpArgs false
/-- A thing in memory that names no other memory. -/
def PureI (it : Item) : Prop := ∀ φ φ' o, it.ok φ o → it.ok φ' o
def PureIs : List Item → Prop
  | [] => True
  | it :: L => PureI it ∧ PureIs L
theorem PureIs.at_ : ∀ {L : List Item} {it : Item}, PureIs L → it ∈ L → PureI it
  | x :: L, it, ⟨h1, h2⟩, h => by
    rcases List.mem_cons.1 h with h | h
    · subst h; exact h1
    · exact PureIs.at_ h2 h
theorem flat_pure {α : Type} {T : Ty α} (hT : ∀ x, PureVs (T.cells x)) {φ φ' : Fz} : ∀ (ys : List α) (us : List Value), Alls φ (ys.flatMap T.cells) us → Alls φ' (ys.flatMap T.cells) us
  | [], us, hh => by
    match us, hh with
    | [], _ => trivial
  | y :: ys, us, hh => by
    rw [List.flatMap_cons] at hh ⊢
    have hl : (T.cells y).length = T.size := T.len y
    have e1 := hh.take T.size
    have e2 := hh.drop T.size
    rw [← hl, List.take_left] at e1
    rw [← hl, List.drop_left] at e2
    have e3 := (hT y).alls (φ' := φ') e1
    have e4 := flat_pure hT (φ' := φ') ys _ e2
    have := e3.append e4
    rwa [List.take_append_drop] at this
theorem pureI_buf {α : Type} {T : Ty α} {v : Value} {e : TypeId} {xs : List α} (hT : ∀ x, PureVs (T.cells x)) : PureI (buf v e T xs) := fun φ φ' o ⟨flat, h0, h1, h2, h3⟩ => ⟨flat, h0, flat_pure hT _ _ h1, h2, h3⟩
theorem pure_top : PureV Top := fun _ _ _ _ => trivial
theorem HP.pure {φ φ1 φ' : Fz} {M : List Item} {w w' : World} (hb : ∀ b i v, φ b i = some v → w.cell? ⟨b, i, none⟩ = some v) (hle : Fle φ φ1) (h : HP ⟨w, φ1, [], []⟩ φ' M w') (hM : PureIs M) : HP ⟨w, φ, [], []⟩ φ M w' := by
  refine ⟨⟨fun b i v e => ?_, fun it hi => ?_, h.mem.sep⟩, h.kept, h.mine, fun _ _ _ => rfl⟩
  · exact h.mem.base b i v (by rw [h.old b i (cell_lt (hb b i v e))]; exact hle _ _ _ e)
  · obtain ⟨h1, h2⟩ := h.mem.items it hi
    refine ⟨hM.at_ hi _ _ _ h1, fun b hat => ⟨(h2 b hat).1, fun i => ?_⟩⟩
    rcases h.mine b (mem_names.2 ⟨it, hi, hat⟩) with h3 | h3
    · cases hq : φ b i with
      | none => rfl
      | some v => exact absurd (cell_lt (hb b i v hq)) (Nat.not_lt.2 h3)
    · cases h3
section
variable {P : Program} {c : Ctx} {A : Nat → Option VP} {L : List Item} {d : Option Tmp} {ty : TypeId} {pos : String} {af : Array Edge} {g : Option (Nat × Bool)}
theorem op_callLO {f : FuncId} {xs : List Operand} {ts : Array TypeId} {As : List VP} {L' : List Item} {ι : Type} {R : ι → VP} {M : ι → List Item} (hL : LendL L L') (hc : ∀ (args : Array Value) (w : World), (callFunc f args).run P w = .ok (.enter f args) w)
    (hF : Fn P f As [] R M) (ha : ArgsE A L' xs As) (hR : ∀ i, PureV (R i)) (hM : ∀ i, PureIs (M i)) : OpS P c ⟨d, .call { callee := .value (.func f), args := xs.toArray, argTypes := ts }, ty, pos, af, g⟩ A L R (fun i => M i ++ L) := by
  intro φ a w K Q hm he hk
  obtain ⟨φ1, hle, hm1⟩ := hL.mem [] φ w hm.mem
  rw [List.nil_append] at hm1
  have hv := ha.alls (φ := φ1) (a := a) fun x hx B hB => by
    obtain ⟨D, h1, h2⟩ := hB
    exact h2 φ1 _ hm1.facts (D.mono hle (he x (by simp [Op.operands, Call.operands, hx]) D (.rfl' h1)))
  unfold Oper.wp
  rw [run_enter hc]
  refine (hF φ1 w _ hv ⟨hm1.base, by simp, List.Pairwise.nil⟩).mono ?_
  rintro e w' ⟨i, v, φ', rfl, h1, h2⟩
  have h2' : HP ⟨w, φ1, [], []⟩ φ' (M i) w' := by simpa [names] using h2
  have h3 := HP.pure hm.mem.base hle h2' (hM i)
  exact hk i φ v w' Fle.rfl' (hR i _ _ _ h1) (hm.new h3)
end
section
variable {P : Program} {c : Ctx} {A : Nat → Option VP} {L : List Item} {d : Option Tmp} {ty : TypeId} {pos : String} {af : Array Edge} {g : Option (Nat × Bool)} {α : Type} {T : Ty α} {xs ys : List α}
end
theorem Fn.weak {P : Program} {f : FuncId} {As : List VP} {L : List Item} {ι : Type} {R R' : ι → VP} {L' : ι → List Item} (h : Fn P f As L R L') (hs : ∀ i φ v, (R i).ok φ v → (R' i).ok φ v) : Fn P f As L R' L' := fun φ w vs ha hm =>
  (h φ w vs ha hm).mono fun e w' ⟨i, v, φ', h1, h2, h3⟩ => ⟨i, v, φ', h1, hs i _ _ h2, h3⟩
theorem tup_top {A : VP} {As : List VP} {φ : Fz} {v : Value} (h : (IsTup (A :: As)).ok φ v) : (IsTup (Top :: As)).ok φ v := by
  obtain ⟨vs, e, k⟩ := h
  match vs, k with
  | u :: us, ⟨_, k2⟩ => exact ⟨_, e, trivial, k2⟩
end Go.Proofs.YtfkmbdpnjcgimaaGreat

/- Words for memory: a slice that reads as a list of cells; what stays. Own work. -/
namespace Go.Proofs.YtfkmbdpnjcgimaaGreat
open Go.RowKit
set_option linter.unusedVariables false
set_option linter.unusedSimpArgs false

/-- The slice value v of n elements of s cells each reads as the cells xs. -/
def SlN (w : World) (v : Value) (s n : Nat) (xs : List Value) : Prop :=
  xs.length = n * s ∧ ((∃ a c, v = .slice a 0 c ∧ n = 0) ∨
    ∃ b o c, v = .slice (some ⟨b, o, none⟩) n c ∧ n ≤ c ∧ c ≤ maxLen ∧ b < w.heap.size ∧ ∀ i u, xs[i]? = some u → w.cell? ⟨b, o + i, none⟩ = some u)
/-- Elements of one cell. -/
def Sl (w : World) (v : Value) (xs : List Value) : Prop := SlN w v 1 xs.length xs
theorem SlN.below {w w' : World} {v : Value} {s n : Nat} {xs : List Value} (h : SlN w v s n xs) {B : Nat} (hb : Below B w w') (hB : w.heap.size ≤ B) : SlN w' v s n xs := by
  obtain ⟨h1, h2⟩ := h
  refine ⟨h1, ?_⟩
  rcases h2 with h2 | ⟨b, o, c, e1, e2, e3, e4, e5⟩
  · exact .inl h2
  · refine .inr ⟨b, o, c, e1, e2, e3, Nat.lt_of_lt_of_le e4 hb.size, fun i u hu => ?_⟩
    rw [hb.cell (p := ⟨b, o + i, none⟩) (by show b < B; omega)]
    exact e5 i u hu
theorem Sl.below {w w' : World} {v : Value} {xs : List Value} (h : Sl w v xs) (hb : Below w.heap.size w w') : Sl w' v xs := SlN.below h hb (Nat.le_refl _)
theorem Sl.cases {w : World} {v : Value} {xs : List Value} (h : Sl w v xs) :
    (∃ a c, v = .slice a 0 c ∧ xs = []) ∨ ∃ b o c, v = .slice (some ⟨b, o, none⟩) xs.length c ∧ xs.length ≤ c ∧ c ≤ maxLen ∧ b < w.heap.size ∧ ∀ i u, xs[i]? = some u → w.cell? ⟨b, o + i, none⟩ = some u := by
  rcases h.2 with ⟨a, c, e1, e2⟩ | h2
  · exact .inl ⟨a, c, e1, List.eq_nil_of_length_eq_zero e2⟩
  · exact .inr h2
theorem Sl.nil (w : World) : Sl w (.slice none 0 0) [] := ⟨rfl, .inl ⟨_, _, rfl, rfl⟩⟩
/-- Block b is just the cells cs. -/
def Blk (w : World) (b : Nat) (t : TypeId) (cs : Array Value) : Prop := w.heap[b]? = some (.cells cs t (0, 0))
theorem Blk.lt {w : World} {b : Nat} {t : TypeId} {cs : Array Value} (h : Blk w b t cs) : b < w.heap.size := by
  rcases Nat.lt_or_ge b w.heap.size with hl | hl
  · exact hl
  · unfold Blk at h; rw [Array.getElem?_eq_none hl] at h; cases h
theorem Blk.cell {w : World} {b : Nat} {t : TypeId} {cs : Array Value} (h : Blk w b t cs) (i : Nat) : w.cell? ⟨b, i, none⟩ = cs[i]? := cell_of_row w b i cs t (0, 0) h
theorem Blk.below {w w' : World} {b : Nat} {t : TypeId} {cs : Array Value} (h : Blk w b t cs) {B : Nat} (hb : Below B w w') (hB : b < B) : Blk w' b t cs := (hb.block b hB).trans h
theorem Blk.new (w : World) (t : TypeId) (cs : Array Value) : Blk (w.alloc (.cells cs t)) w.heap.size t cs := heap_alloc_new w _
theorem addr_add (b o k : Nat) : (⟨b, o, none⟩ : Addr).add k = ⟨b, o + k, none⟩ := Addr.add_lit b o k
/-- Where a part of a slice begins (at the very end of the capacity the old address stays). -/
def cutA (a : Option Addr) (cap lo s : Nat) : Option Addr := if cap = lo then a else a.map (·.add (lo * s))
@[go_sem ↓ high] theorem sliced_cutA (a : Option Addr) (l h m s : Nat) : sliced a l h m s = .slice (cutA a m l s) (h - l) (m - l) := rfl
/-- A part of a slice of one-cell elements. -/
theorem Sl.cut {w : World} {a : Option Addr} {n c : Nat} {xs : List Value} (h : Sl w (.slice a n c) xs) {lo hi : Nat} (h1 : lo ≤ hi) (h2 : hi ≤ n) {A : Option Addr} {c' : Nat}
    (hA' : A = cutA a c lo 1) (hc : c' = c - lo) : Sl w (.slice A (hi - lo) c') ((xs.take hi).drop lo) := by
  have hA : A = if c = lo then a else a.map (·.add lo) := by rw [hA']; unfold cutA; simp
  have hn : xs.length = n := by
    rcases h.cases with ⟨a', c'', e, rfl⟩ | ⟨b, o, c'', e, _⟩
    · injection e with _ e2 _; rw [e2]; rfl
    · injection e with _ e2 _; exact e2.symm
  have hl : ((xs.take hi).drop lo).length = hi - lo := by rw [List.length_drop, List.length_take]; omega
  refine ⟨by simp, ?_⟩
  rw [hl]
  by_cases h0 : hi - lo = 0
  · exact .inl ⟨A, c', by rw [h0], h0⟩
  · rcases h.cases with ⟨a', c'', e, rfl⟩ | ⟨b, o, c'', e, e2, e3, e4, e5⟩
    · simp at hn; omega
    · injection e with g1 g2 g3
      subst g1 g3
      rw [if_neg (by omega)] at hA
      subst hA
      refine .inr ⟨b, o + lo, c', by rw [Option.map_some, addr_add], by omega, by omega, e4, fun i u hu => ?_⟩
      rw [Nat.add_assoc]
      apply e5
      rw [List.getElem?_drop] at hu
      have hlt : lo + i < hi := by
        rcases Nat.lt_or_ge (lo + i) hi with g | g
        · exact g
        · rw [List.getElem?_eq_none (by rw [List.length_take]; omega)] at hu; cases hu
      rw [List.getElem?_take_of_lt hlt] at hu
      exact hu
theorem Sl.len {w : World} {a : Option Addr} {n c : Nat} {xs : List Value} (h : Sl w (.slice a n c) xs) : xs.length = n := by
  rcases h.cases with ⟨a', c'', e, rfl⟩ | ⟨b, o, c'', e, _⟩
  · injection e with _ e2 _; rw [e2]; rfl
  · injection e with _ e2 _; exact e2.symm
@[go_sem high] theorem min_nat {P : Program} {w : World} (ts : Array TypeId) (t : TypeId) (k k' : IntKind) (x y : Nat) : (Builtin.min_ ts t #[.int k (x : Int), .int k' (y : Int)]).run P w = .ok (.int k ((min x y : Nat) : Int)) w := by
  rw [run_min_int2]
  congr 2
  split <;> omega
@[go_sem high] theorem max_nat {P : Program} {w : World} (ts : Array TypeId) (t : TypeId) (k k' : IntKind) (x y : Nat) : (Builtin.max_ ts t #[.int k (x : Int), .int k' (y : Int)]).run P w = .ok (.int k ((max x y : Nat) : Int)) w := by
  rw [run_max_int2]
  congr 2
  split <;> omega
theorem Sl.at_ {w : World} {a : Option Addr} {n c : Nat} {xs : List Value} (h : Sl w (.slice a n c) xs) {k : Nat} (hk : k < n) :
    ∃ b o, a = some ⟨b, o, none⟩ ∧ b < w.heap.size ∧ ∀ u, xs[k]? = some u → w.cell? ⟨b, o + k, none⟩ = some u := by
  rcases h.cases with ⟨a', c'', e, rfl⟩ | ⟨b, o, c'', e, e2, e3, e4, e5⟩
  · injection e with _ e2 _; omega
  · injection e with g1 g2 g3
    exact ⟨b, o, g1, e4, e5 k⟩
theorem Blk.alloc {w : World} {b : Nat} {t : TypeId} {cs : Array Value} (h : Blk w b t cs) (o : Obj) : Blk (w.alloc o) b t cs := (Below.heap_alloc w o b h.lt).trans h
end Go.Proofs.YtfkmbdpnjcgimaaGreat

/- Members of a view: their cells, their slices, their lists. Own work. -/
namespace Go.Proofs.YtfkmbdpnjcgimaaGreat
open Go.RowKit
set_option linter.unusedVariables false
set_option linter.unusedSimpArgs false
/-- A member. -/
structure Mb where
  n : Int
  b : Int
  f : Bool
  deriving DecidableEq
def Mb.cells (m : Mb) : List Value := [.int .i64 m.n, .int .i64 m.b, .bool m.f]
def Mb.val (m : Mb) : Value := .agg #[.int .i64 m.n, .int .i64 m.b, .bool m.f]
/-- The member at a place. -/
def Mb.at (ms : List Mb) (k : Nat) : Mb := ms.getD k ⟨0, 0, false⟩
/-- A slice that reads as members. -/
def SlM (w : World) (v : Value) (ms : List Mb) : Prop := SlN w v 3 ms.length (ms.flatMap Mb.cells)
theorem mcells_get (ms : List Mb) (k j : Nat) (hk : k < ms.length) (hj : j < 3) : (ms.flatMap Mb.cells)[k * 3 + j]? = ((Mb.at ms k).cells)[j]? := by
  induction ms generalizing k with
  | nil => simp at hk
  | cons p ms ih =>
    rw [List.flatMap_cons]
    cases k with
    | zero => rw [List.getElem?_append_left (by simp [Mb.cells]; omega)]; simp [Mb.at]
    | succ k =>
      rw [List.getElem?_append_right (by simp [Mb.cells]; omega)]
      have e : (k + 1) * 3 + j - p.cells.length = k * 3 + j := by simp [Mb.cells]; omega
      rw [e, ih k (by simpa using hk)]
      simp [Mb.at]
/-- The three cells of a member at an address. -/
def MbAt (w : World) (b o : Nat) (m : Mb) : Prop :=
  w.cell? ⟨b, o, none⟩ = some (.int .i64 m.n) ∧ w.cell? ⟨b, o + 1, none⟩ = some (.int .i64 m.b) ∧ w.cell? ⟨b, o + 2, none⟩ = some (.bool m.f)
theorem SlM.len {w : World} {a : Option Addr} {n c : Nat} {ms : List Mb} (h : SlM w (.slice a n c) ms) : ms.length = n := by
  rcases h.2 with ⟨a', c', e, e2⟩ | ⟨b, o, c', e, _⟩
  · injection e with _ e3 _; omega
  · injection e with _ e3 _; exact e3.symm
theorem SlM.form {w : World} {v : Value} {ms : List Mb} (h : SlM w v ms) : ∃ a c, v = .slice a ms.length c := by
  rcases h.2 with ⟨a', c', e, e2⟩ | ⟨b, o, c', e, _⟩
  · exact ⟨a', c', by rw [e, e2]⟩
  · exact ⟨_, c', e⟩
theorem SlM.at_ {w : World} {a : Option Addr} {n c : Nat} {ms : List Mb} (h : SlM w (.slice a n c) ms) {k : Nat} (hk : k < n) :
    ∃ b o, a = some ⟨b, o, none⟩ ∧ b < w.heap.size ∧ ∀ j, j < n → MbAt w b (o + j * 3) (Mb.at ms j) := by
  have hl := h.len
  rcases h.2 with ⟨a', c', e, e2⟩ | ⟨b, o, c', e, e2, e3, e4, e5⟩
  · omega
  · injection e with g1 g2 g3
    refine ⟨b, o, g1, e4, fun i hi => ?_⟩
    have g : ∀ j, j < 3 → ∀ u, ((Mb.at ms i).cells)[j]? = some u → w.cell? ⟨b, o + i * 3 + j, none⟩ = some u := fun j hj u hu => by
      rw [Nat.add_assoc]
      exact e5 _ u ((mcells_get ms i j (by omega) hj).trans hu)
    exact ⟨g 0 (by omega) _ rfl, g 1 (by omega) _ rfl, g 2 (by omega) _ rfl⟩
theorem SlM.below {w w' : World} {v : Value} {ms : List Mb} (h : SlM w v ms) (hb : Below w.heap.size w w') : SlM w' v ms := SlN.below h hb (Nat.le_refl _)
theorem SlM.alloc {w : World} {v : Value} {ms : List Mb} (h : SlM w v ms) (o : Obj) : SlM (w.alloc o) v ms := h.below ((Below.refl _ _).alloc (Nat.le_refl _) o)
theorem SlM.nil (w : World) : SlM w (.slice none 0 0) [] := ⟨rfl, .inl ⟨_, _, rfl, rfl⟩⟩
theorem MbAt.below {w w' : World} {b o : Nat} {m : Mb} {B : Nat} (h : MbAt w b o m) (hb : Below B w w') (hB : b < B) : MbAt w' b o m := by
  have k : ∀ x, w'.cell? ⟨b, x, none⟩ = w.cell? ⟨b, x, none⟩ := fun x => hb.cell (p := ⟨b, x, none⟩) hB
  unfold MbAt at *
  simp only [k]
  exact h
end Go.Proofs.YtfkmbdpnjcgimaaGreat

/- Types of the api, as lists of cells. Own work. -/
namespace Go.Proofs.YtfkmbdpnjcgimaaGreat
open Go.RowKit
def tI64 : Ty Int := ⟨1, fun n => [Is (.int .i64 n)], fun _ => rfl⟩
def tU64 : Ty (BitVec 64) := ⟨1, fun n => [Is (.int .u64 (UV n))], fun _ => rfl⟩
end Go.Proofs.YtfkmbdpnjcgimaaGreat

/- Pages: their values, their equality. Own work. -/
namespace Go.Proofs.YtfkmbdpnjcgimaaGreat
open Go.RowKit
set_option linter.unusedVariables false
set_option linter.unusedSimpArgs false
/-- The value of a page. -/
def pageV (l : Int) (h d0 d1 d2 d3 d4 d5 d6 : BitVec 64) : Value :=
  .agg #[.int .i64 l, .int .u64 (UV h), .int .u64 (UV d0), .int .u64 (UV d1), .int .u64 (UV d2), .int .u64 (UV d3), .int .u64 (UV d4), .int .u64 (UV d5), .int .u64 (UV d6)]
theorem u64_one : ∃ i, Tryz.prog.info? 48 = some i := by
  have h : (Tryz.prog.info? 48).isSome = true := by kernel_rfl
  exact Option.isSome_iff_exists.1 h
set_option maxHeartbeats 1000000 in
@[go_sem high] theorem eq7 (d : Nat) (w : World) (a0 a1 a2 a3 a4 a5 a6 b0 b1 b2 b3 b4 b5 b6 : BitVec 64) :
    (Op.equalIn (d + 2) 49 (.agg #[.int .u64 (UV a0), .int .u64 (UV a1), .int .u64 (UV a2), .int .u64 (UV a3), .int .u64 (UV a4), .int .u64 (UV a5), .int .u64 (UV a6)])
      (.agg #[.int .u64 (UV b0), .int .u64 (UV b1), .int .u64 (UV b2), .int .u64 (UV b3), .int .u64 (UV b4), .int .u64 (UV b5), .int .u64 (UV b6)])).run Tryz.prog w =
    .ok (a0 == b0 && (a1 == b1 && (a2 == b2 && (a3 == b3 && (a4 == b4 && (a5 == b5 && a6 == b6)))))) w := by
  obtain ⟨i, hi⟩ := u64_one
  rw [show d + 2 = (d + 1) + 1 from rfl, run_equalIn_array w (d + 1) _ _ Tryz.underlying49 hi]
  have hc : Tryz.prog.cellsOf 48 = 1 := by kernel_rfl
  rw [hc]
  have hp : ∀ (cs : Array Value) (k : Nat) (h : k < cs.size) (w : World), (part 48 cs k).run Tryz.prog w = .ok cs[k] w := by
    intro cs k h w
    simp [part, isAgg, run_underlying Tryz.underlying48, h]
  have he : ∀ (a b : BitVec 64) (w : World), (Op.equalIn (d + 1) 48 (.int .u64 (UV a)) (.int .u64 (UV b))).run Tryz.prog w = .ok (a == b) w := by
    intro a b w
    rw [run_equalIn_int w d _ .u64 .u64 _ _ Tryz.underlying48, UV_beq]
  simp only [List.range_succ, List.range_zero, List.nil_append, List.cons_append, Op.eqItems, Sem.run_bind, Nat.mul_one]
  simp [hp, he]
  by_cases h0 : a0 = b0
  case neg => simp [h0]
  by_cases h1 : a1 = b1
  case neg => simp [h0, h1]
  by_cases h2 : a2 = b2
  case neg => simp [h0, h1, h2]
  by_cases h3 : a3 = b3
  case neg => simp [h0, h1, h2, h3]
  by_cases h4 : a4 = b4
  case neg => simp [h0, h1, h2, h3, h4]
  by_cases h5 : a5 = b5
  case neg => simp [h0, h1, h2, h3, h4, h5]
  by_cases h6 : a6 = b6
  case neg => simp [h0, h1, h2, h3, h4, h5, h6]
  simp [h0, h1, h2, h3, h4, h5, h6]
/-- A page. -/
structure Pg where
  l : Int
  h : BitVec 64
  d0 : BitVec 64
  d1 : BitVec 64
  d2 : BitVec 64
  d3 : BitVec 64
  d4 : BitVec 64
  d5 : BitVec 64
  d6 : BitVec 64
  deriving DecidableEq
def Pg.cells (p : Pg) : List Value := [.int .i64 p.l, .int .u64 (UV p.h), .int .u64 (UV p.d0), .int .u64 (UV p.d1), .int .u64 (UV p.d2), .int .u64 (UV p.d3), .int .u64 (UV p.d4), .int .u64 (UV p.d5), .int .u64 (UV p.d6)]
def Pg.val (p : Pg) : Value := pageV p.l p.h p.d0 p.d1 p.d2 p.d3 p.d4 p.d5 p.d6
/-- A slice that reads as pages. -/
def SlP (w : World) (v : Value) (ps : List Pg) : Prop := SlN w v 9 ps.length (ps.flatMap Pg.cells)
theorem cells_get (ps : List Pg) (k j : Nat) (hk : k < ps.length) (hj : j < 9) : (ps.flatMap Pg.cells)[k * 9 + j]? = (ps[k].cells)[j]? := by
  induction ps generalizing k with
  | nil => simp at hk
  | cons p ps ih =>
    rw [List.flatMap_cons]
    cases k with
    | zero => rw [List.getElem?_append_left (by simp [Pg.cells]; omega)]; simp
    | succ k =>
      rw [List.getElem?_append_right (by simp [Pg.cells]; omega)]
      have e : (k + 1) * 9 + j - p.cells.length = k * 9 + j := by simp [Pg.cells]; omega
      rw [e, ih k (by simpa using hk)]
      rfl
/-- The nine cells of a page at an address. -/
def PgAt (w : World) (b o : Nat) (p : Pg) : Prop :=
  w.cell? ⟨b, o, none⟩ = some (.int .i64 p.l) ∧ w.cell? ⟨b, o + 1, none⟩ = some (.int .u64 (UV p.h)) ∧ w.cell? ⟨b, o + 2, none⟩ = some (.int .u64 (UV p.d0)) ∧ w.cell? ⟨b, o + 3, none⟩ = some (.int .u64 (UV p.d1)) ∧
  w.cell? ⟨b, o + 4, none⟩ = some (.int .u64 (UV p.d2)) ∧ w.cell? ⟨b, o + 5, none⟩ = some (.int .u64 (UV p.d3)) ∧ w.cell? ⟨b, o + 6, none⟩ = some (.int .u64 (UV p.d4)) ∧ w.cell? ⟨b, o + 7, none⟩ = some (.int .u64 (UV p.d5)) ∧ w.cell? ⟨b, o + 8, none⟩ = some (.int .u64 (UV p.d6))
theorem SlP.len {w : World} {a : Option Addr} {n c : Nat} {ps : List Pg} (h : SlP w (.slice a n c) ps) : ps.length = n := by
  rcases h.2 with ⟨a', c', e, e2⟩ | ⟨b, o, c', e, _⟩
  · injection e with _ e3 _; omega
  · injection e with _ e3 _; exact e3.symm
theorem SlP.form {w : World} {v : Value} {ps : List Pg} (h : SlP w v ps) : ∃ a c, v = .slice a ps.length c := by
  rcases h.2 with ⟨a', c', e, e2⟩ | ⟨b, o, c', e, _⟩
  · exact ⟨a', c', by rw [e, e2]⟩
  · exact ⟨_, c', e⟩
theorem SlP.at_ {w : World} {a : Option Addr} {n c : Nat} {ps : List Pg} (h : SlP w (.slice a n c) ps) {k : Nat} (hk : k < ps.length) :
    ∃ b o, a = some ⟨b, o, none⟩ ∧ b < w.heap.size ∧ PgAt w b (o + k * 9) ps[k] := by
  have hl := h.len
  rcases h.2 with ⟨a', c', e, e2⟩ | ⟨b, o, c', e, e2, e3, e4, e5⟩
  · omega
  · injection e with g1 g2 g3
    refine ⟨b, o, g1, e4, ?_⟩
    have g : ∀ j, j < 9 → ∀ u, (ps[k].cells)[j]? = some u → w.cell? ⟨b, o + k * 9 + j, none⟩ = some u := fun j hj u hu => by
      rw [Nat.add_assoc]
      exact e5 _ u ((cells_get ps k j hk hj).trans hu)
    exact ⟨g 0 (by omega) _ rfl, g 1 (by omega) _ rfl, g 2 (by omega) _ rfl, g 3 (by omega) _ rfl, g 4 (by omega) _ rfl, g 5 (by omega) _ rfl, g 6 (by omega) _ rfl, g 7 (by omega) _ rfl, g 8 (by omega) _ rfl⟩
theorem SlP.below {w w' : World} {v : Value} {ps : List Pg} (h : SlP w v ps) (hb : Below w.heap.size w w') : SlP w' v ps := SlN.below h hb (Nat.le_refl _)
theorem PgAt.below {w w' : World} {b o : Nat} {p : Pg} {B : Nat} (h : PgAt w b o p) (hb : Below B w w') (hB : b < B) : PgAt w' b o p := by
  have k : ∀ x, w'.cell? ⟨b, x, none⟩ = w.cell? ⟨b, x, none⟩ := fun x => hb.cell (p := ⟨b, x, none⟩) hB
  unfold PgAt at *
  simp only [k]
  exact h
theorem SlP.alloc {w : World} {v : Value} {ps : List Pg} (h : SlP w v ps) (o : Obj) : SlP (w.alloc o) v ps := h.below ((Below.refl _ _).alloc (Nat.le_refl _) o)
end Go.Proofs.YtfkmbdpnjcgimaaGreat

/- Pages, told by predicates; pages compared. Own work. -/
namespace Go.Proofs.YtfkmbdpnjcgimaaGreat
open Go.RowKit
set_option linter.unusedVariables false
set_option linter.unusedSimpArgs false
def tPg : Ty Pg := ⟨9, fun p => [Is (.int .i64 p.l), Is (.int .u64 (UV p.h)), Is (.int .u64 (UV p.d0)), Is (.int .u64 (UV p.d1)), Is (.int .u64 (UV p.d2)), Is (.int .u64 (UV p.d3)), Is (.int .u64 (UV p.d4)), Is (.int .u64 (UV p.d5)), Is (.int .u64 (UV p.d6))], fun _ => rfl⟩
@[reducible] def IsPg (p : Pg) : VP := IsAgg (tPg.cells p)
end Go.Proofs.YtfkmbdpnjcgimaaGreat

/- Pointers and tags: plain functions and their laws. Own work. -/
namespace Go.Proofs.YtfkmbdpnjcgimaaGreat
open Go.RowKit
set_option linter.unusedVariables false
set_option linter.unusedSimpArgs false
theorem UV_low (w : Nat) (k : Nat) (x : BitVec w) (m : BitVec w) (hm : m.toNat = 2 ^ k - 1) : UV (x &&& m) = UV x % 2 ^ k := by
  unfold UV
  rw [BitVec.toNat_and, hm, Nat.and_two_pow_sub_one_eq_mod]
  push_cast; rfl
theorem UV_shr (w : Nat) (x : BitVec w) (n : Nat) : UV (x >>> n) = UV x / 2 ^ n := by
  unfold UV
  rw [BitVec.toNat_ushiftRight, Nat.shiftRight_eq_div_pow]
  push_cast; rfl
structure Pt where
  line : Int
  gen : Int
  deriving DecidableEq
def tPt : Ty Pt := ⟨2, fun p => [Is (.int .i64 p.line), Is (.int .i64 p.gen)], fun _ => rfl⟩
@[reducible] def IsPt (p : Pt) : VP := IsAgg (tPt.cells p)
def Pt.nil : Pt := ⟨0, 0⟩
def heapB (l : Int) : Bool := decide (l ≥ 104) && decide (l < 256)
def validP (p : Pt) : Bool := heapB p.line && decide (p.gen ≥ 1) && decide (p.gen ≤ 16777215)
def unpackP (w : BitVec 32) : Pt := ⟨UV w % 256, UV w / 256⟩
def packP (p : Pt) : BitVec 32 := if validP p then BitVec.ofInt 32 (p.line + 256 * p.gen) else 0#32
theorem validP_iff {p : Pt} : validP p = true ↔ 104 ≤ p.line ∧ p.line < 256 ∧ 1 ≤ p.gen ∧ p.gen ≤ 16777215 := by
  unfold validP heapB
  simp only [Bool.and_eq_true, decide_eq_true_eq]
  omega
theorem UV_ofInt32 {n : Int} (h : 0 ≤ n ∧ n < 4294967296) : UV (BitVec.ofInt 32 n) = n := by
  unfold UV
  rw [BitVec.toNat_ofInt]; omega
theorem unpack_pack {p : Pt} (h : validP p = true) : unpackP (packP p) = p := by
  have h1 := validP_iff.1 h
  unfold unpackP packP
  rw [if_pos h, UV_ofInt32 (by omega)]
  obtain ⟨l, g⟩ := p
  dsimp only at h1 ⊢
  congr 1 <;> omega
theorem pack_ne {p : Pt} (h : validP p = true) : packP p ≠ 0#32 := fun e => by
  have h1 := validP_iff.1 h
  have h2 : UV (packP p) = p.line + 256 * p.gen := by unfold packP; rw [if_pos h, UV_ofInt32 (by omega)]
  rw [e] at h2
  simp [UV] at h2
  omega
theorem pack_or {p : Pt} (h : validP p = true) : BitVec.ofInt 32 p.gen <<< 8 ||| BitVec.ofInt 32 p.line = packP p := by
  have h1 := validP_iff.1 h
  have hg : (BitVec.ofInt 32 p.gen).toNat = p.gen.toNat := by rw [BitVec.toNat_ofInt]; omega
  have hl : (BitVec.ofInt 32 p.line).toNat = p.line.toNat := by rw [BitVec.toNat_ofInt]; omega
  unfold packP
  rw [if_pos h]
  apply BitVec.eq_of_toNat_eq
  rw [BitVec.toNat_or, BitVec.toNat_shiftLeft, hg, hl, BitVec.toNat_ofInt]
  have e : p.gen.toNat <<< 8 % 2 ^ 32 = 2 ^ 8 * p.gen.toNat := by rw [Nat.shiftLeft_eq]; omega
  rw [e, ← Nat.two_pow_add_eq_or_of_lt (by omega : p.line.toNat < 2 ^ 8)]
  omega
theorem pack_no {p : Pt} (h : validP p = false) : packP p = 0#32 := by unfold packP; rw [h]; rfl
theorem unpack_bits (x : BitVec 32) : unpackP x = ⟨UV (x &&& BitVec.ofInt 32 255), UV (x >>> 8)⟩ := by
  have h1 := UV_low 32 8 x (BitVec.ofInt 32 255) rfl
  have h2 := UV_shr 32 x 8
  rw [h1, h2]; rfl
end Go.Proofs.YtfkmbdpnjcgimaaGreat

/- Rules: a call to which a row of one's own is lent, and whose results stay because they cannot lie in the row that was lent. Own work. -/
namespace Go.Proofs.YtfkmbdpnjcgimaaGreat
open Go.RowKit
set_option linter.unusedVariables false
set_option linter.unusedSimpArgs false
/-- What holds while the row lies in block b holds without it. -/
def Away {α : Type} (T : Ty α) (H : List α) (A A' : VP) : Prop := ∀ (φ φ' ψ : Fz) (b : Nat) (flat : List Value), Alls ψ (H.flatMap T.cells) flat → (∀ b' i, b' ≠ b → φ' b' i = φ b' i) → (∀ i, φ' b i = flat[i]?) → ∀ v, A.ok φ' v → A'.ok φ v
section
variable {α : Type} {T : Ty α} {H : List α}
theorem away_pure {A : VP} (h : PureV A) : Away T H A A := fun _ _ _ _ _ _ _ _ v k => h _ _ _ k
theorem away_is {u : Value} : Away T H (Is u) (Is u) := away_pure pure_is
theorem away_top {A : VP} : Away T H A Top := fun _ _ _ _ _ _ _ _ v k => trivial
def Aways (T : Ty α) (H : List α) : List VP → List VP → Prop
  | [], [] => True
  | A :: As, B :: Bs => Away T H A B ∧ Aways T H As Bs
  | _, _ => False
theorem Aways.alls {φ φ' ψ : Fz} {b : Nat} {flat : List Value} (h1 : Alls ψ (H.flatMap T.cells) flat) (h2 : ∀ b' i, b' ≠ b → φ' b' i = φ b' i) (h3 : ∀ i, φ' b i = flat[i]?) : ∀ {As Bs : List VP} {vs : List Value}, Aways T H As Bs → Alls φ' As vs → Alls φ Bs vs
  | [], [], [], _, _ => trivial
  | A :: As, B :: Bs, v :: vs, ⟨h4, h5⟩, ⟨h6, h7⟩ => ⟨h4 _ _ _ _ _ h1 h2 h3 _ h6, Aways.alls h1 h2 h3 h5 h7⟩
theorem away_tup {As Bs : List VP} (h : Aways T H As Bs) : Away T H (IsTup As) (IsTup Bs) := fun _ _ _ _ _ h1 h2 h3 v ⟨vs, e, k⟩ => ⟨vs, e, h.alls h1 h2 h3 k⟩
theorem away_agg {As Bs : List VP} (h : Aways T H As Bs) : Away T H (IsAgg As) (IsAgg Bs) := fun _ _ _ _ _ h1 h2 h3 v ⟨vs, e, k, o⟩ => ⟨vs, e, h.alls h1 h2 h3 k, o⟩
/-- The cells lie somewhere in the row. -/
def Emb (T : Ty α) (H : List α) (cs : List VP) : Prop := ∃ (ψ φ' : Fz) (flat : List Value) (o : Nat), Alls ψ (H.flatMap T.cells) flat ∧ ∀ j B, cs[j]? = some B → ∃ u, flat[o + j]? = some u ∧ B.ok φ' u
theorem pureVs_at : ∀ {Bs : List VP} {j : Nat} {D : VP}, PureVs Bs → Bs[j]? = some D → PureV D
  | E :: Es, 0, D, ⟨p1, p2⟩, hj => by simp at hj; subst hj; exact p1
  | E :: Es, j + 1, D, ⟨p1, p2⟩, hj => pureVs_at p2 (by simpa using hj)
theorem away_sl {β : Type} {T' : Ty β} {ys : List β} (hT : ∀ y, PureVs (T'.cells y)) (hno : ∀ y, ys[0]? = some y → ¬ Emb T H (T'.cells y)) : Away T H (IsSl T' ys) (IsSl T' ys) := fun φ φ' ψ b flat h1 h2 h3 v ⟨a, n, c, e, k1, k2, k3, k4⟩ => by
  refine ⟨a, n, c, e, k1, k2, k3, ?_⟩
  rcases k4 with k4 | ⟨b0, o, k5, k6⟩
  · exact .inl k4
  · by_cases hn : n = 0
    · exact .inl hn
    refine .inr ⟨b0, o, k5, fun k x hx j B hB => ?_⟩
    by_cases hb : b0 = b
    · exfalso
      subst hb
      obtain ⟨y, hy⟩ : ∃ y, ys[0]? = some y := ⟨_, List.getElem?_eq_getElem (by omega)⟩
      refine hno y hy ⟨ψ, φ', flat, o, h1, fun j B hB => ?_⟩
      obtain ⟨u, q1, q2, _⟩ := k6 0 y hy j B hB
      rw [h3, Nat.zero_mul, Nat.add_zero] at q1
      exact ⟨u, q1, q2⟩
    · obtain ⟨u, q1, q2, q3⟩ := k6 k x hx j B hB
      exact ⟨u, by rw [← h2 _ _ hb]; exact q1, pureVs_at (hT x) hB _ _ _ q2, q3⟩
theorem Mem.lend {φ : Fz} {w : World} {L L' : List Item} {v : Value} {e : TypeId} (hm : Mem φ L w) (hr : Repl L (buf v e T H) (fact v (IsSl T H)) L') (hne : H ≠ []) :
    ∃ (φ' : Fz) (gg : Nat) (flat : List Value), Fle φ φ' ∧ Mem φ' L' w ∧ (∀ b i, b ≠ gg → φ' b i = φ b i) ∧ (∀ i, φ' gg i = flat[i]?) ∧ Alls φ (H.flatMap T.cells) flat ∧ gg < w.heap.size ∧ ∀ i, φ gg i = none := by
  have hit := hm.items _ hr.mem
  obtain ⟨flat, f1, f2, f3⟩ := buf_owns hit
  rcases f3.2 with ⟨rfl, h0⟩ | ⟨gg, cap, cur, rfl, _, e1, e2, e3, e4, e5⟩
  · exact absurd (List.eq_nil_of_length_eq_zero h0) hne
  · have hown : ∀ i, φ gg i = none := fun i => (hit.2 gg rfl).2 i
    let φ' : Fz := fun b i => if b = gg then flat[i]? else φ b i
    have hsame : ∀ i, φ' gg i = flat[i]? := fun i => if_pos rfl
    have hoth : ∀ b i, b ≠ gg → φ' b i = φ b i := fun b i h => if_neg h
    have hle : Fle φ φ' := fun b i u hu => by
      rw [hoth b i (fun e => by subst e; rw [hown i] at hu; cases hu)]; exact hu
    have hfl : flat.length = H.length * T.size := f3.1
    refine ⟨φ', gg, flat, hle, ⟨fun b i u hu => ?_, fun x hx => ?_, hr.sep hm.sep fun x hx _ _ => ⟨fun b _ (hb : none = some b) => (nomatch hb), fun b (hb : none = some b) => (nomatch hb)⟩⟩, hoth, hsame, f1, (hit.2 gg rfl).1, hown⟩
    · by_cases hbg : b = gg
      · subst hbg
        rw [hsame] at hu
        rw [cell_of_row w b i cur e _ e1]
        rw [← e5] at hu
        have hi : i < H.length * T.size := by
          have := (List.getElem?_eq_some_iff.1 hu).1
          rw [List.length_take] at this; omega
        rw [List.getElem?_take_of_lt hi, Array.getElem?_toList] at hu
        exact hu
      · rw [hoth b i hbg] at hu
        exact hm.base b i u hu
    · rcases hr.mem' hx with rfl | ⟨hx', hap⟩
      · refine ⟨⟨_, _, _, rfl, rfl, e2, e3, .inr ⟨gg, 0, rfl, fun k x hk j B hB => ?_⟩⟩, fun b (hb : none = some b) => (nomatch hb)⟩
        obtain ⟨u, h1, h2⟩ := flat_at (flat := flat) f1 hk hB
        refine ⟨u, ?_, B.mono hle h2, f2 u (List.mem_of_getElem? h1)⟩
        rw [hsame, Nat.zero_add]; exact h1
      · obtain ⟨h1, h2⟩ := hm.items x hx'
        refine ⟨x.mono hle h1, fun b hb => ⟨(h2 b hb).1, fun i => ?_⟩⟩
        rw [hoth b i (fun e => (hap hm.sep).1 b hb (by rw [e]; rfl))]
        exact (h2 b hb).2 i
end
section
variable {P : Program} {c : Ctx} {A : Nat → Option VP} {L : List Item} {d : Option Tmp} {ty : TypeId} {pos : String} {af : Array Edge} {g : Option (Nat × Bool)} {α : Type} {T : Ty α} {H : List α}
theorem op_callBW {f : FuncId} {xs : List Operand} {ts : Array TypeId} {As : List VP} {R R' : VP} {L' : List Item} {v : Value} {e : TypeId} (hr : Repl L (buf v e T H) (fact v (IsSl T H)) L') (hne : H ≠ []) (hc : ∀ (args : Array Value) (w : World), (callFunc f args).run P w = .ok (.enter f args) w)
    (hF : FnP P f As R) (ha : ArgsE A L' xs As) (hR : Away T H R R') : OpP P c ⟨d, .call { callee := .value (.func f), args := xs.toArray, argTypes := ts }, ty, pos, af, g⟩ A L R' := by
  intro φ a w K Q hm he hk
  obtain ⟨φ1, gg, flat, hle, hm1, hoff, hat, hal, hgg, hno⟩ := hm.mem.lend hr hne
  have hv := ha.alls (φ := φ1) (a := a) fun x hx B hB => by
    obtain ⟨D, h1, h2⟩ := hB
    exact h2 φ1 _ hm1.facts (D.mono hle (he x (by simp [Op.operands, Call.operands, hx]) D (.rfl' h1)))
  unfold Oper.wp
  rw [run_enter hc]
  refine (hF φ1 w _ hv ⟨hm1.base, by simp, List.Pairwise.nil⟩).mono ?_
  rintro e' w' ⟨i, u, φ', rfl, h1, h2⟩
  have hk2 : Kpt [] w w' := by have := h2.kept; simpa [names] using this
  have hold : ∀ b i, b < w.heap.size → φ' b i = φ1 b i := fun b i hb => h2.old b i hb
  refine hk (fun b i => if b = gg then none else φ' b i) u w' ⟨⟨fun b i u hu => ?_, by simp, List.Pairwise.nil⟩, hk2, by simp [names], fun b i hb => ?_⟩ (hR _ φ' φ gg flat hal (fun b' i hb => (if_neg hb).symm) (fun i => by rw [hold gg i hgg]; exact hat i) u h1)
  · split at hu
    · cases hu
    · exact h2.mem.base b i u hu
  · dsimp only
    by_cases hb2 : b = gg
    · rw [if_pos hb2, hb2]; exact (hno i).symm
    · rw [if_neg hb2, hold b i hb, hoff b i hb2]
end
theorem UV_injA {n : Nat} {a b : BitVec n} (h : UV a = UV b) : a = b := by
  apply BitVec.eq_of_toNat_eq
  unfold UV at h
  omega
theorem pg_row {H : List Pg} {ψ : Fz} {flat : List Value} (h : Alls ψ (H.flatMap tPg.cells) flat) {o : Nat} {u : Value} (hu : flat[o]? = some u) : ∃ x B, H[o / 9]? = some x ∧ (tPg.cells x)[o % 9]? = some B ∧ B.ok ψ u := by
  have hl := h.len
  have hlen : ∀ ys : List Pg, (ys.flatMap tPg.cells).length = 9 * ys.length := fun ys => by
    induction ys with
    | nil => rfl
    | cons y ys ih => rw [List.flatMap_cons, List.length_append, ih, List.length_cons]; have : (tPg.cells y).length = 9 := rfl; omega
  rw [hlen] at hl
  have ho := (List.getElem?_eq_some_iff.1 hu).1
  obtain ⟨x, hx⟩ : ∃ x, H[o / 9]? = some x := ⟨_, List.getElem?_eq_getElem (by omega)⟩
  obtain ⟨B, hB⟩ : ∃ B, (tPg.cells x)[o % 9]? = some B := ⟨_, List.getElem?_eq_getElem (by have : (tPg.cells x).length = 9 := rfl; omega)⟩
  obtain ⟨u', h1, h2⟩ := flat_at (T := tPg) (flat := flat) h hx hB
  have e : o / 9 * tPg.size + o % 9 = o := by have : tPg.size = 9 := rfl; rw [this]; omega
  rw [e, hu] at h1
  injection h1 with h1
  subst h1
  exact ⟨x, B, hx, hB, h2⟩
/-- A whole number with a sign stands only at a page's first place. -/
theorem pg_int {H : List Pg} {ψ : Fz} {flat : List Value} (h : Alls ψ (H.flatMap tPg.cells) flat) {o : Nat} {n : Int} (hu : flat[o]? = some (.int .i64 n)) : o % 9 = 0 := by
  obtain ⟨x, B, h1, h2, h3⟩ := pg_row h hu
  have hr : o % 9 < 9 := Nat.mod_lt _ (by decide)
  generalize o % 9 = r at *
  match r, hr, h2 with
  | 0, _, _ => rfl
  | 1, _, h2 | 2, _, h2 | 3, _, h2 | 4, _, h2 | 5, _, h2 | 6, _, h2 | 7, _, h2 | 8, _, h2 =>
    injection h2 with h2
    subst h2
    have h3' : Value.int IntKind.i64 n = _ := h3
    injection h3' with h4
    cases h4
theorem pg_emb {H : List Pg} {y : Pg} (h : Emb tPg H (tPg.cells y)) : y ∈ H := by
  obtain ⟨ψ, φ', flat, o, h1, h2⟩ := h
  have get : ∀ (j : Nat) (v : Value), (tPg.cells y)[j]? = some (Is v) → flat[o + j]? = some v := fun j v hj => by
    obtain ⟨u, a1, a2⟩ := h2 j _ hj
    have : u = v := a2
    rw [this] at a1; exact a1
  have h0 : o % 9 = 0 := pg_int h1 (get 0 _ rfl)
  obtain ⟨x, B, hx, _, _⟩ := pg_row h1 (get 0 _ rfl)
  have cell : ∀ (j : Nat) (v v' : Value), j < 9 → (tPg.cells y)[j]? = some (Is v) → (tPg.cells x)[j]? = some (Is v') → v = v' := fun j v v' hj hv hv' => by
    obtain ⟨x', B', a1, a2, a3⟩ := pg_row h1 (get j v hv)
    rw [show (o + j) / 9 = (o + 0) / 9 by omega, hx] at a1
    injection a1 with a1
    subst a1
    rw [show (o + j) % 9 = j by omega, hv'] at a2
    injection a2 with a2
    subst a2
    exact a3
  have e0 := cell 0 _ _ (by decide) rfl rfl
  have e1 := cell 1 _ _ (by decide) rfl rfl
  have e2 := cell 2 _ _ (by decide) rfl rfl
  have e3 := cell 3 _ _ (by decide) rfl rfl
  have e4 := cell 4 _ _ (by decide) rfl rfl
  have e5 := cell 5 _ _ (by decide) rfl rfl
  have e6 := cell 6 _ _ (by decide) rfl rfl
  have e7 := cell 7 _ _ (by decide) rfl rfl
  have e8 := cell 8 _ _ (by decide) rfl rfl
  injection e0 with _ e0
  injection e1 with _ e1
  injection e2 with _ e2
  injection e3 with _ e3
  injection e4 with _ e4
  injection e5 with _ e5
  injection e6 with _ e6
  injection e7 with _ e7
  injection e8 with _ e8
  have : y = x := by
    cases y; cases x
    simp only at e0 e1 e2 e3 e4 e5 e6 e7 e8
    rw [e0, UV_injA e1, UV_injA e2, UV_injA e3, UV_injA e4, UV_injA e5, UV_injA e6, UV_injA e7, UV_injA e8]
  rw [this]
  exact List.mem_of_getElem? hx
theorem pt_emb {H : List Pg} {y : Pt} (h : Emb tPg H (tPt.cells y)) : False := by
  obtain ⟨ψ, φ', flat, o, h1, h2⟩ := h
  obtain ⟨u, a1, a2⟩ := h2 0 _ rfl
  obtain ⟨u', b1, b2⟩ := h2 1 _ rfl
  have c1 : u = _ := a2
  have c2 : u' = _ := b2
  rw [c1] at a1
  rw [c2] at b1
  have d1 := pg_int h1 a1
  have d2 := pg_int h1 b1
  omega
end Go.Proofs.YtfkmbdpnjcgimaaGreat

/- Pointers compared. Own work. -/
namespace Go.Proofs.YtfkmbdpnjcgimaaGreat
open Go.RowKit
set_option linter.unusedVariables false
set_option linter.unusedSimpArgs false
def Pt.cells (p : Pt) : List Value := [.int .i64 p.line, .int .i64 p.gen]
section
theorem eqPt_run (p q : Pt) (w : World) : (Op.equal 39 (.agg p.cells.toArray) (.agg q.cells.toArray)).run Tryz.prog w = .ok (decide (p = q)) w := by
  have h : (Op.equalIn (9999 + 1) 39 (.agg #[.int .i64 p.line, .int .i64 p.gen]) (.agg #[.int .i64 q.line, .int .i64 q.gen])).run Tryz.prog w = .ok (decide (p = q)) w := by
    go_simp
    obtain ⟨a, b⟩ := p
    obtain ⟨a', b'⟩ := q
    by_cases h1 : a = a' <;> by_cases h2 : b = b' <;> simp [h1, h2]
  exact h
theorem eqPt_guard (o : BinOp) (x y : Operand) (p q : Pt) (w : World) : (eqGuard o 39 x y (.agg p.cells.toArray) (.agg q.cells.toArray)).run Tryz.prog w = .ok () w := by
  have h : Tryz.prog.eqGuardType Tryz.prog.depth 39 = false := by kernel_rfl
  cases o <;> simp [eqGuard, program, Sem.run, h]
theorem eqPt_eql (p q : Pt) (w : World) : (binOp .eql 39 (.agg p.cells.toArray) (.agg q.cells.toArray)).run Tryz.prog w = .ok (.bool (decide (p = q))) w := by
  simp only [binOp, Sem.run_bind, eqPt_run, Result.andThen_ok, Sem.run_pure]
end
end Go.Proofs.YtfkmbdpnjcgimaaGreat

/- Rules: a part of a struct or of an array that is a value. Own work. -/
namespace Go.Proofs.YtfkmbdpnjcgimaaGreat
open Go.RowKit
set_option linter.unusedVariables false
set_option linter.unusedSimpArgs false
section
variable {P : Program} {c : Ctx} {A : Nat → Option VP} {L : List Item} {d : Option Tmp} {ty : TypeId} {pos : String} {af : Array Edge} {g : Option (Nat × Bool)}
theorem part_run1 {φ : Fz} {As : List VP} {vs : List Value} {t : TypeId} {D : TypeDesc} {o : Nat} {B : VP} {w : World} (h : Alls φ As vs) (hu : P.underlying t = some D) (hD : aggB D = false) (hB : As[o]? = some B) : ∃ v, (part t vs.toArray o).run P w = .ok v w ∧ B.ok φ v := by
  obtain ⟨v, h3, h4⟩ := alls_arr h hB
  exact ⟨v, by simp only [part, Sem.run_bind, run_isAgg hu, hD, Result.andThen_ok, h3]; rfl, h4⟩
theorem part_runA {φ : Fz} {As Rs : List VP} {vs : List Value} {t : TypeId} {D : TypeDesc} {o n : Nat} {w : World} (h : Alls φ As vs) (h1 : ones vs) (hu : P.underlying t = some D) (hD : aggB D = true) (hn : (P.info? t).map (·.size) = some n) (hR : (As.drop o).take n = Rs) :
    ∃ v, (part t vs.toArray o).run P w = .ok v w ∧ (IsAgg Rs).ok φ v := by
  refine ⟨.agg ((vs.drop o).take n).toArray, ?_, (vs.drop o).take n, rfl, ?_, fun u hu => h1 u (List.mem_of_mem_drop (List.mem_of_mem_take hu))⟩
  · simp only [part, Sem.run_bind, run_isAgg hu, hD, Result.andThen_ok, if_true, run_sizeOf hn, Sem.run_pure]
    congr 2
    apply Array.ext'
    simp
  · rw [← hR]; exact (h.drop o).take n
theorem op_fieldV1 {s : TypeId} {x : Operand} {i : Nat} {fs : Array Field} {f : Field} {As : List VP} {B : VP} {D : TypeDesc} (hx : Ev A L x (IsAgg As)) (hu : P.underlying s = some (.struct fs)) (hf : fs[i]? = some f) (hD : P.underlying f.type = some D) (hd : aggB D = false) (hB : As[f.offset]? = some B) :
    OpP P c ⟨d, .field s x i, ty, pos, af, g⟩ A L B :=
  opp fun φ a w hm he => by
    obtain ⟨vs, h1, h2, h3⟩ : (IsAgg As).ok φ (a.eval x) := he x (by simp [Op.operands]) _ hx
    obtain ⟨v, h4, h5⟩ := part_run1 (w := w) h2 hD hd hB
    refine ⟨v, ?_, h5⟩
    simp only [execOp, h1]
    refine run_val ?_
    simp only [Instr.field, asAgg, Sem.run_bind, Sem.run_pure, run_underlying hu, Result.andThen_ok, hf]
    exact h4
theorem op_indexV {t e : TypeId} {x y : Operand} {As Rs : List VP} {len sz k : Nat} {j : Int} {q : IntKind} {D : TypeDesc} (hx : Ev A L x (IsAgg As)) (hy : Ev A L y (Is (.int q j))) (hu : P.underlying t = some (.array len e)) (hD : P.underlying e = some D) (hd : aggB D = true) (hs : (P.info? e).map (·.size) = some sz) (hj : j = k) (hk : k < len) (hR : (As.drop (k * sz)).take sz = Rs) :
    OpP P c ⟨d, .index t x y, ty, pos, af, g⟩ A L (IsAgg Rs) :=
  opp fun φ a w hm he => by
    obtain ⟨vs, h1, h2, h3⟩ : (IsAgg As).ok φ (a.eval x) := he x (by simp [Op.operands]) _ hx
    have h6 : a.eval y = .int q j := he y (by simp [Op.operands]) _ hy
    obtain ⟨v, h4, h5⟩ := part_runA (w := w) h2 h3 hD hd hs hR
    refine ⟨v, ?_, h5⟩
    have h7 : (0 : Int) ≤ j ∧ j < (len : Int) := by omega
    have h8 : j.toNat = k := by omega
    simp only [execOp, h1, h6]
    refine run_val ?_
    simp only [Instr.index, asIntOf, Sem.run_bind, Sem.run_pure, Result.andThen_ok, run_underlying hu, h7, and_self, if_true, run_sizeOf hs, h8]
    exact h4
end
end Go.Proofs.YtfkmbdpnjcgimaaGreat

/- Headers, retired entries, node pages: their cells; compared. Own work. -/
namespace Go.Proofs.YtfkmbdpnjcgimaaGreat
open Go.RowKit
set_option linter.unusedVariables false
set_option linter.unusedSimpArgs false
structure Hd where
  owner : Int
  used : BitVec 32
  deriving DecidableEq
structure Re where
  to : Pt
  ep : BitVec 32
  deriving DecidableEq
structure Nd where
  pin : Bool
  ep : BitVec 32
  sg : BitVec 32
  inc : Int
  r0 : Re
  r1 : Re
  r2 : Re
  r3 : Re
  deriving DecidableEq
def Hd.nil : Hd := ⟨0, 0#32⟩
def Re.nil : Re := ⟨Pt.nil, 0#32⟩
def Nd.nil : Nd := ⟨false, 0#32, 0#32, 0, Re.nil, Re.nil, Re.nil, Re.nil⟩
def tHd : Ty Hd := ⟨2, fun x => [Is (.int .i64 x.owner), Is (.int .u32 (UV x.used))], fun _ => rfl⟩
@[reducible] def IsHd (x : Hd) : VP := IsAgg (tHd.cells x)
def Hd.cells (x : Hd) : List Value := [.int .i64 x.owner, .int .u32 (UV x.used)]
def tRe : Ty Re := ⟨3, fun x => [Is (.int .i64 x.to.line), Is (.int .i64 x.to.gen), Is (.int .u32 (UV x.ep))], fun _ => rfl⟩
@[reducible] def IsRe (x : Re) : VP := IsAgg (tRe.cells x)
def Re.cells (x : Re) : List Value := [.int .i64 x.to.line, .int .i64 x.to.gen, .int .u32 (UV x.ep)]
def tNd : Ty Nd := ⟨16, fun x => [Is (.bool x.pin), Is (.int .u32 (UV x.ep)), Is (.int .u32 (UV x.sg)), Is (.int .i64 x.inc), Is (.int .i64 x.r0.to.line), Is (.int .i64 x.r0.to.gen), Is (.int .u32 (UV x.r0.ep)), Is (.int .i64 x.r1.to.line), Is (.int .i64 x.r1.to.gen), Is (.int .u32 (UV x.r1.ep)), Is (.int .i64 x.r2.to.line), Is (.int .i64 x.r2.to.gen), Is (.int .u32 (UV x.r2.ep)), Is (.int .i64 x.r3.to.line), Is (.int .i64 x.r3.to.gen), Is (.int .u32 (UV x.r3.ep))], fun _ => rfl⟩
@[reducible] def IsNd (x : Nd) : VP := IsAgg (tNd.cells x)
def Nd.cells (x : Nd) : List Value := [.bool x.pin, .int .u32 (UV x.ep), .int .u32 (UV x.sg), .int .i64 x.inc, .int .i64 x.r0.to.line, .int .i64 x.r0.to.gen, .int .u32 (UV x.r0.ep), .int .i64 x.r1.to.line, .int .i64 x.r1.to.gen, .int .u32 (UV x.r1.ep), .int .i64 x.r2.to.line, .int .i64 x.r2.to.gen, .int .u32 (UV x.r2.ep), .int .i64 x.r3.to.line, .int .i64 x.r3.to.gen, .int .u32 (UV x.r3.ep)]
theorem eqRe_el (d : Nat) (w : World) (p q : Re) : (Op.equalIn (d + 3) 41 (.agg #[.int .i64 p.to.line, .int .i64 p.to.gen, .int .u32 (UV p.ep)]) (.agg #[.int .i64 q.to.line, .int .i64 q.to.gen, .int .u32 (UV q.ep)])).run Tryz.prog w = .ok (decide (p = q)) w := by
  go_simp
  obtain ⟨⟨a, b⟩, c⟩ := p
  obtain ⟨⟨a', b'⟩, c'⟩ := q
  by_cases h1 : a = a' <;> by_cases h2 : b = b' <;> by_cases h3 : c = c' <;> simp [h1, h2, h3]
theorem eqRe_run (p q : Re) (w : World) : (Op.equal 41 (.agg p.cells.toArray) (.agg q.cells.toArray)).run Tryz.prog w = .ok (decide (p = q)) w := eqRe_el 9997 w p q
theorem eqRe_one : ∃ i, Tryz.prog.info? 41 = some i := by
  have h : (Tryz.prog.info? 41).isSome = true := by kernel_rfl
  exact Option.isSome_iff_exists.1 h
theorem eqRe_part (cs : Array Value) (k : Nat) (w : World) : (part 41 cs k).run Tryz.prog w = .ok (.agg (cs.extract k (k + 3))) w := by
  have hn : (Tryz.prog.info? 41).map (·.size) = some 3 := by kernel_rfl
  have hu : (isAgg 41).run Tryz.prog w = .ok true w := run_isAgg Tryz.underlying41 w
  simp only [part, Sem.run_bind, hu, Result.andThen_ok, if_true, run_sizeOf hn, Sem.run_pure]
set_option maxHeartbeats 4000000 in
@[go_sem high] theorem eqRe_4 (d : Nat) (w : World) (a0 a1 a2 a3 b0 b1 b2 b3 : Re) :
    (Op.equalIn (d + 4) 42 (.agg #[.int .i64 a0.to.line, .int .i64 a0.to.gen, .int .u32 (UV a0.ep), .int .i64 a1.to.line, .int .i64 a1.to.gen, .int .u32 (UV a1.ep), .int .i64 a2.to.line, .int .i64 a2.to.gen, .int .u32 (UV a2.ep), .int .i64 a3.to.line, .int .i64 a3.to.gen, .int .u32 (UV a3.ep)]) (.agg #[.int .i64 b0.to.line, .int .i64 b0.to.gen, .int .u32 (UV b0.ep), .int .i64 b1.to.line, .int .i64 b1.to.gen, .int .u32 (UV b1.ep), .int .i64 b2.to.line, .int .i64 b2.to.gen, .int .u32 (UV b2.ep), .int .i64 b3.to.line, .int .i64 b3.to.gen, .int .u32 (UV b3.ep)])).run Tryz.prog w = .ok ((decide (a0 = b0) && (decide (a1 = b1) && (decide (a2 = b2) && decide (a3 = b3))))) w := by
  obtain ⟨i, hi⟩ := eqRe_one
  rw [show d + 4 = (d + 3) + 1 from rfl, run_equalIn_array w (d + 3) _ _ Tryz.underlying42 hi]
  have hc : Tryz.prog.cellsOf 41 = 3 := by kernel_rfl
  rw [hc]
  simp only [List.range_succ, List.range_zero, List.nil_append, List.cons_append, Op.eqItems, Sem.run_bind, eqRe_part, Result.andThen_ok]
  have e0 := eqRe_el d w a0 b0
  have e1 := eqRe_el d w a1 b1
  have e2 := eqRe_el d w a2 b2
  have e3 := eqRe_el d w a3 b3
  simp [eqRe_part, e0, e1, e2, e3]
  by_cases h0 : a0 = b0
  case neg => simp [eqRe_part, e0, e1, e2, e3, h0]
  by_cases h1 : a1 = b1
  case neg => simp [eqRe_part, e0, e1, e2, e3, h0, h1]
  by_cases h2 : a2 = b2
  case neg => simp [eqRe_part, e0, e1, e2, e3, h0, h1, h2]
  by_cases h3 : a3 = b3 <;> simp [eqRe_part, e0, e1, e2, e3, h0, h1, h2, h3]
theorem eqRe_guard (o : BinOp) (x y : Operand) (p q : Re) (w : World) : (eqGuard o 41 x y (.agg p.cells.toArray) (.agg q.cells.toArray)).run Tryz.prog w = .ok () w := by
  have h : Tryz.prog.eqGuardType Tryz.prog.depth 41 = false := by kernel_rfl
  cases o <;> simp [eqGuard, program, Sem.run, h]
theorem eqRe_eql (p q : Re) (w : World) : (binOp .eql 41 (.agg p.cells.toArray) (.agg q.cells.toArray)).run Tryz.prog w = .ok (.bool (decide (p = q))) w := by
  simp only [binOp, Sem.run_bind, eqRe_run, Result.andThen_ok, Sem.run_pure]
theorem eqRe_neq (p q : Re) (w : World) : (binOp .neq 41 (.agg p.cells.toArray) (.agg q.cells.toArray)).run Tryz.prog w = .ok (.bool (!decide (p = q))) w := by
  simp only [binOp, Sem.run_bind, eqRe_run, Result.andThen_ok, Sem.run_pure]
end Go.Proofs.YtfkmbdpnjcgimaaGreat

/- Types' cells normalised; by name. Own work. -/
namespace Go.Proofs.YtfkmbdpnjcgimaaGreat
open Go.RowKit
theorem nrmT {a b : List VP} (h : a = b := by (first | ((simp only [tPg, tU64, tI64, tPt, tHd, tRe, tNd, zcells, Nat.reduceMul, Nat.reduceAdd, Value.cells, ovr, List.set_cons_succ, List.set_cons_zero, List.map_cons, List.map_nil, List.drop_succ_cons, List.drop_zero, List.take_succ_cons, List.take_zero, List.flatMap_cons, List.flatMap_nil, List.append_nil, List.cons_append, List.nil_append, List.toList_toArray]); (try exact rfl)) | exact rfl)) : a = b := h
end Go.Proofs.YtfkmbdpnjcgimaaGreat

/- From 'well formed' to a bit vector, to bounds. Own work. -/
namespace Go.Proofs.YtfkmbdpnjcgimaaGreat
open Go.RowKit
theorem i64_of_wf {a : Int} (h : (Lit.int .i64 a).wf = true) : -9223372036854775808 ≤ a ∧ a ≤ 9223372036854775807 := by
  simp [Lit.wf, IntKind.min, IntKind.max, IntKind.signed, IntKind.bits] at h
  omega
end Go.Proofs.YtfkmbdpnjcgimaaGreat

/- From the frame's reading of a slice of integers to a list of bit vectors. Own work. -/
namespace Go.Proofs.YtfkmbdpnjcgimaaGreat
open Go.RowKit
set_option linter.unusedVariables false
set_option linter.unusedSimpArgs false
end Go.Proofs.YtfkmbdpnjcgimaaGreat

/- From the frame's readings to lists: integers. Own work. -/
namespace Go.Proofs.YtfkmbdpnjcgimaaGreat
open Go.RowKit Go.ChangeShapes Go.WideShapes Go.ChangeAt
set_option linter.unusedVariables false
set_option linter.unusedSimpArgs false
section
variable {H : Type} {enc : TypeId × Value → H} {P : Program} {w : World} {base : Nat} {held : Bool}
theorem trod_lt0 {t : TypeId} {v : Value} {d : DataW H} {ps : List MemPlace} {sp : Nat → Bool} (h : DataW.Trod enc P w 0 sp held t v d ps) : ∀ x ∈ ps, x.block < w.heap.size := by
  obtain ⟨m, hm⟩ := h; exact DataW.trod_lt m _ _ _ hm
end
end Go.Proofs.YtfkmbdpnjcgimaaGreat

/- The bridge: what a call's arguments read as, told by predicates; contracts as statements of the frame. Own work. -/
namespace Go.Proofs.YtfkmbdpnjcgimaaGreat
open Go.RowKit Go.ChangeShapes Go.WideShapes Go.ChangeAt
set_option linter.unusedVariables false
set_option linter.unusedSimpArgs false
/-- All cells of a world stay. -/
def phi (w : World) : Fz := fun b i => w.cell? ⟨b, i, none⟩
theorem Fn.run {P : Program} {f : FuncId} {As : List VP} {r : Value} (h : FnP P f As (Is r)) (w : World) (vs : List Value) (hv : Alls (phi w) As vs) : Calls P f vs.toArray w fun e w' => e = .returned r ∧ Below w.heap.size w w' := by
  refine (h (phi w) w vs hv ⟨fun _ _ _ h => h, by simp, List.Pairwise.nil⟩).mono ?_
  rintro e w' ⟨i, v, φ', rfl, h1, h2⟩
  have h1' : v = r := h1
  subst h1'
  exact ⟨rfl, Kpt.below (by simpa [names] using h2.kept)⟩
def tBool : Ty Bool := ⟨1, fun b => [Is (.bool b)], fun _ => rfl⟩
def tSl {α : Type} (T : Ty α) : Ty (List α) := ⟨1, fun xs => [IsSl T xs], fun _ => rfl⟩
def I64ok (a : Int) : Prop := -9223372036854775808 ≤ a ∧ a ≤ 9223372036854775807
section
variable {H : Type} {enc : TypeId × Value → H} {P : Program} {w : World} {base : Nat} {sp : Nat → Bool} {held : Bool}
/-- The cells of a type are read as T tells. -/
def Rds {H : Type} (enc : TypeId × Value → H) (P : Program) (w : World) (base : Nat) (sp : Nat → Bool) (held : Bool) {α : Type} (t : TypeId) (T : Ty α) (R : α → Prop) : Prop :=
  ∀ (fuel : Nat) (cs : List Value) (x : DataW H × List MemPlace), DataW.trod enc P w base sp held fuel t cs = some x → ∃ a, Alls (phi w) (T.cells a) cs ∧ ones cs ∧ R a
theorem ones_app {us vs : List Value} (h : ones us) (k : ones vs) : ones (us ++ vs) := fun u hu => (List.mem_append.1 hu).elim (h u) (k u)
theorem ones_1 {v : Value} (h : v.oneCell' = true) : ones [v] := ones_cons h ones_nil
theorem rds_i64 {t : TypeId} (ht : P.underlying t = some (.int .i64)) : Rds enc P w base sp held t tI64 I64ok := by
  intro fuel cs x h
  obtain ⟨a, rfl, _, hw⟩ := DataW.trod_int ht h
  exact ⟨a, ⟨rfl, trivial⟩, ones_1 rfl, i64_of_wf hw⟩
theorem rds_slice {α : Type} {T : Ty α} {R : α → Prop} {t e : TypeId} (ht : P.underlying t = some (.slice e)) (hc : P.cellsOf e = T.size) (hs : Nat.blt 0 T.size = true) (he : Rds enc P w base sp held e T R) : Rds enc P w base sp held t (tSl T) (fun xs => ∀ a ∈ xs, R a) := by
  intro fuel cs x h
  have hs' : 0 < T.size := Nat.le_of_ble_eq_true hs
  rcases Go.Deep.open_slice ht h with ⟨rfl, _⟩ | ⟨a, len, cap, m, n, D, Pl, rfl, _, hl, hm, hmm, _, hx⟩
  · exact ⟨[], ⟨⟨none, 0, 0, rfl, rfl, Nat.le_refl _, Nat.zero_le _, .inl rfl⟩, trivial⟩, ones_1 rfl, fun a ha => absurd ha (List.not_mem_nil)⟩
  have hlm : len ≤ m := by rw [hmm]; split <;> omega
  rcases Nat.eq_zero_or_pos len with h0 | h0
  · subst h0
    exact ⟨[], ⟨⟨some a, 0, cap, rfl, rfl, Nat.zero_le _, hm, .inl rfl⟩, trivial⟩, ones_1 rfl, fun a ha => absurd ha (List.not_mem_nil)⟩
  have hspot : a.spot = none := by
    obtain ⟨cs', h1, h2⟩ := hx 0 (by omega)
    rw [hc] at h1
    obtain ⟨_, hlen, hcell⟩ := World.cells?_some h1
    have h3 := hcell 0 hs'
    rw [List.getElem?_eq_getElem (by omega)] at h3
    simpa [Addr.add] using World.cell?_spot h3
  have key : ∀ i, i < len → ∃ y : α, a.spot = none ∧ RefAt (phi w) a.block (a.off + i * T.size) (T.cells y) ∧ R y := fun i hi => by
    obtain ⟨cs', h1, h2⟩ := hx i (by omega)
    rw [hc] at h1
    obtain ⟨_, hlen, hcell⟩ := World.cells?_some h1
    obtain ⟨y, g1, g2, g3⟩ := he _ _ _ h2
    refine ⟨y, hspot, fun j A hA => ?_, g3⟩
    obtain ⟨u, k1, k2⟩ := g1.get hA
    refine ⟨u, ?_, k2, g2 u (List.mem_of_getElem? k1)⟩
    have hj : j < T.size := by
      have := (List.getElem?_eq_some_iff.1 hA).1
      rw [T.len] at this; exact this
    have h3 := hcell j hj
    rw [k1] at h3
    obtain ⟨b, o, q⟩ := a
    dsimp only at hspot
    subst hspot
    rw [addr_add, addr_add] at h3
    exact h3
  obtain ⟨y0, _, _⟩ := key 0 h0
  have : Inhabited α := ⟨y0⟩
  obtain ⟨A, hA⟩ := Go.Deep.choose_lt key
  obtain ⟨b, o, q⟩ := a
  dsimp only at hspot hA
  subst hspot
  refine ⟨(List.range len).map A, ⟨⟨some ⟨b, o, none⟩, len, cap, rfl, by simp, hl, hm, .inr ⟨b, o, rfl, fun k x hk => ?_⟩⟩, trivial⟩, ones_1 rfl, fun y hy => ?_⟩
  · have hlt : k < len := by
      have := (List.getElem?_eq_some_iff.1 hk).1
      simpa using this
    rw [List.getElem?_map, List.getElem?_range hlt] at hk
    simp only [Option.map_some, Option.some.injEq] at hk
    subst hk
    exact (hA k hlt).2.1
  · obtain ⟨i, hi, rfl⟩ := List.mem_map.1 hy
    exact (hA i (List.mem_range.1 hi)).2.2
/-- An argument of one cell. -/
theorem rds_arg1 {α : Type} {T : Ty α} {R : α → Prop} {t : TypeId} {v : Value} {d : DataW H} {ps : List MemPlace} {A : α → VP} (hT : ∀ a, T.cells a = [A a]) (he : Rds enc P w base sp held t T R) (hv : v.cells.toList = [v])
    (h : DataW.Trod enc P w base sp held t v d ps) : ∃ a, (A a).ok (phi w) v ∧ R a := by
  obtain ⟨fuel, hf⟩ := h
  obtain ⟨a, h1, _, h2⟩ := he _ _ _ hf
  rw [hv, hT] at h1
  exact ⟨a, h1.1, h2⟩
theorem rds_argSl {α : Type} {T : Ty α} {R : List α → Prop} {t e : TypeId} (ht : P.underlying t = some (.slice e)) {r : Reach} {b0 : Nat} {v : Value} {d : DataW H} {ps : List MemPlace} (he : Rds enc P w base sp held t (tSl T) R)
    (hval : Value.okWide P w r b0 t v) (h : DataW.Trod enc P w base sp held t v d ps) : ∃ xs, (IsSl T xs).ok (phi w) v ∧ R xs := by
  obtain ⟨a, len, cap, rfl⟩ := okWide_slice ht hval
  exact rds_arg1 (A := IsSl T) (fun _ => rfl) he rfl h
end
end Go.Proofs.YtfkmbdpnjcgimaaGreat

/- Contracts that lean on what a package variable holds: a fact about it goes in. Own work. -/
namespace Go.Proofs.YtfkmbdpnjcgimaaGreat
open Go.RowKit
set_option linter.unusedVariables false
set_option linter.unusedSimpArgs false
section
variable {P : Program} {c : Ctx} {A : Nat → Option VP} {L : List Item} {d : Option Tmp} {ty : TypeId} {pos : String} {af : Array Edge} {g : Option (Nat × Bool)}
@[reducible] def FnK (P : Program) (f : FuncId) (G : Item) (As : List VP) (R : VP) : Prop := Fn P f As [G] (fun _ : Unit => R) (fun _ => [])
theorem FnK.run {v : Value} {B : VP} {f : FuncId} {As : List VP} {r : Value} (h : FnK P f (fact v B) As (Is r)) (w : World) (vs : List Value) (hB : B.ok (phi w) v) (hv : Alls (phi w) As vs) : Calls P f vs.toArray w fun e w' => e = .returned r ∧ Below w.heap.size w w' := by
  refine (h (phi w) w vs hv ⟨fun _ _ _ h => h, fun it hi => ?_, List.pairwise_singleton _ _⟩).mono ?_
  · rw [List.mem_singleton] at hi; subst hi; exact ⟨hB, fun b hb => by cases hb⟩
  · rintro e w' ⟨i, v, φ', rfl, h1, h2⟩
    have h1' : v = r := h1
    subst h1'
    exact ⟨rfl, Kpt.below (by simpa [names, fact] using h2.kept)⟩
end
end Go.Proofs.YtfkmbdpnjcgimaaGreat

/- Contracts: pointers. Own work. -/
namespace Go.Proofs.YtfkmbdpnjcgimaaGreat
open Go.RowKit
set_option linter.unusedVariables false
set_option linter.unusedSimpArgs false
set_option maxRecDepth 100000
-- pointer.inHeap: function 41
theorem inHeap_ok (l : Int) : FnP Tryz.prog 41 [Is (.int .i64 l)] (Is (.bool (heapB l))) := by
  refine FnP.enter Tryz.func41 Tryz.ntmps41 rfl rfl ?_
  intro c hX
  refine JC_seq (JC_region (JL_1 rfl (op_assign rfl) (JL_nil ?_)))
  refine JQ_then (JC_seq ?_)
  refine JC_region (JL_1 rfl (op_move rfl) (JL_1 rfl (op_geq (Ev.rfl' rfl) (Ev.rfl' rfl)) (JL_1 rfl (op_move rfl) ?_)))
  (refine JL_i0 rfl rfl rfl (fun hg => (by have hg0 := hg; (try simp at hg); exact op_moveE (Ev.rfl' rfl))) ?_)
  (refine JL_i0 rfl rfl rfl (fun hg => (by have hg0 := hg; (try simp at hg); exact op_lss evG evG)) ?_)
  refine JL_1 rfl (op_and (Ev.rfl' rfl) rfl (fun h => by exact SubL.iteT (by (rw [h]; rfl)) SubL.rfl')) ?_
  refine JL_1 rfl (op_assign rfl) (JL_nil ?_)
  refine JQ_then (JC_ret ?_)
  refine JQ_ret1 Tryz.results41 rfl () (SubL.eq ?_) (List.nil_sublist _)
  rfl
-- pointer.Valid: function 45
theorem ValidP_ok (p : Pt) : FnP Tryz.prog 45 [IsPt p] (Is (.bool (validP p))) := by
  refine FnP.enter Tryz.func45 Tryz.ntmps45 rfl rfl ?_
  intro c hX
  refine JC_seq (JC_region ?_)
  (refine JL_n rfl (op_box (Ev.rfl' rfl) cellsT) ?_; intro i1)
  refine JL_1 rfl (op_assign rfl) (JL_nil ?_)
  refine JQ_then (JC_seq ?_)
  refine JC_region (JL_1 rfl (by exact op_fieldPtr (k := 0) (Ev.rfl' rfl) rfl rfl rfl rfl) ?_)
  refine JL_1 rfl (by exact op_loadPtr (Ev.rfl' rfl) memT (by rfl) (by rfl) (by rfl)) ?_
  refine JL_1 rfl (op_call Tryz.call41 (inHeap_ok _) ⟨evS, trivial⟩) ?_
  refine JL_1 rfl (op_move rfl) ?_
  (refine JL_i0 rfl rfl rfl (fun hg => (by have hg0 := hg; (try simp at hg); exact op_fieldPtr (k := 1) evG rfl rfl rfl rfl)) ?_)
  (refine JL_i0 rfl rfl rfl (fun hg => (by have hg0 := hg; (try simp at hg); exact op_loadPtr evG memT (by rfl) (by rfl) (by rfl))) ?_)
  (refine JL_i0 rfl rfl rfl (fun hg => (by have hg0 := hg; (try simp at hg); exact op_geq evG evG)) ?_)
  refine JL_1 rfl (op_and (Ev.rfl' rfl) rfl (fun h => by exact SubL.iteT (by (rw [h]; rfl)) SubL.rfl')) ?_
  refine JL_1 rfl (op_move rfl) ?_
  (refine JL_i0 rfl rfl rfl (fun hg => (by have hg0 := hg; (try simp at hg); exact op_fieldPtr (k := 1) evG rfl rfl rfl rfl)) ?_)
  (refine JL_i0 rfl rfl rfl (fun hg => (by have hg0 := hg; (try simp at hg); exact op_loadPtr evG memT (by rfl) (by rfl) (by rfl))) ?_)
  (refine JL_i0 rfl rfl rfl (fun hg => (by have hg0 := hg; (try simp at hg); exact op_leq evG evG)) ?_)
  refine JL_1 rfl (op_and (Ev.rfl' rfl) rfl (fun h => by exact SubL.iteT (by (rw [h]; rfl)) SubL.rfl')) ?_
  refine JL_1 rfl (op_assign rfl) (JL_nil ?_)
  refine JQ_then (JC_ret ?_)
  refine JQ_ret1 Tryz.results45 rfl () (SubL.eq ?_) (List.nil_sublist _)
  rfl
-- pointer.Pack: function 49
theorem Pack_ok (p : Pt) : FnP Tryz.prog 49 [IsPt p] (Is (.int .u32 (UV (packP p)))) := by
  refine FnP.enter Tryz.func49 Tryz.ntmps49 rfl rfl ?_
  intro c hX
  refine JC_seq (JC_region ?_)
  (refine JL_n rfl (op_box (Ev.rfl' rfl) cellsT) ?_; intro i1)
  refine JL_1 rfl (op_assign rfl) (JL_nil ?_)
  refine JQ_then (JC_seq (JC_seq ?_))
  refine JC_region (JL_1 rfl (by exact op_loadPtrsN (n := 2) (Ev.rfl' rfl) memT (by rfl) (by rfl) (by rfl) (by rfl) nrmT) ?_)
  refine JL_1 rfl (op_call Tryz.call45 (ValidP_ok _) ⟨evS, trivial⟩) ?_
  refine JL_1 rfl (op_not (Ev.rfl' rfl)) (JL_nil (JQ_then ?_))
  refine JC_cond (Ev.rfl' rfl) (fun h1 => ?_) (fun h1 => ?_)
  · refine JC_seq (JC_region (JL_1 rfl (op_assign rfl) (JL_nil ?_)))
    refine JQ_then (JC_ret (JQ_then_ret ?_))
    refine JQ_ret1 Tryz.results49 rfl () (SubL.eq ?_) (List.nil_sublist _)
    rw [pack_no (by simpa using h1)]; rfl
  refine JC_skip (JQ_then (JC_seq ?_))
  refine JC_region (JL_1 rfl (by exact op_fieldPtr (k := 1) (Ev.rfl' rfl) rfl rfl rfl rfl) ?_)
  refine JL_1 rfl (by exact op_loadPtr (Ev.rfl' rfl) memT (by rfl) (by rfl) (by rfl)) ?_
  refine JL_1 rfl (op_conv (Ev.rfl' rfl) rfl rfl convT) ?_
  refine JL_1 rfl (by exact op_shlU32 (k := 8) ev32 (Ev.rfl' rfl) (by omega) idxT) ?_
  refine JL_1 rfl (by exact op_fieldPtr (k := 0) (Ev.rfl' rfl) rfl rfl rfl rfl) ?_
  refine JL_1 rfl (by exact op_loadPtr (Ev.rfl' rfl) memT (by rfl) (by rfl) (by rfl)) ?_
  refine JL_1 rfl (op_conv (Ev.rfl' rfl) rfl rfl convT) ?_
  refine JL_1 rfl (by exact op_bits ev32 ev32 (by simp) (or_u32 _ _)) ?_
  refine JL_1 rfl (op_assign rfl) (JL_nil ?_)
  refine JQ_then (JC_ret ?_)
  refine JQ_ret1 Tryz.results49 rfl () (SubL.eq ?_) (List.nil_sublist _)
  rw [← pack_or (by simpa using h1)]
-- pointer.Unpack: function 44
theorem Unpack_ok (x : BitVec 32) : FnP Tryz.prog 44 [Is (.int .u32 (UV x))] (IsPt (unpackP x)) := by
  refine FnP.enter Tryz.func44 Tryz.ntmps44 rfl rfl ?_
  intro c hX
  refine JC_seq (JC_region ?_)
  (refine JL_n rfl (op_allocN rfl nrmT rfl) ?_; intro i2)
  refine JL_nil ?_
  refine JQ_then (JC_seq ?_)
  refine JC_region (JL_1 rfl (op_move rfl) (JL_1 rfl (by exact op_bits ev32 ev32 (by simp) (and_u32 _ _)) ?_))
  refine JL_1 rfl (op_conv (Ev.rfl' rfl) rfl rfl convT) ?_
  refine JL_1 rfl (op_move rfl) (JL_1 rfl (by exact op_shrU32 (k := 8) ev32 (Ev.rfl' rfl) (by omega) idxT) ?_)
  refine JL_1 rfl (op_conv (Ev.rfl' rfl) rfl rfl convT) ?_
  refine JL_1 rfl (op_buildN (qs := [(0, _), (1, _)]) rfl rfl rfl rfl ⟨⟨rfl, _, (Ev.rfl' rfl), cellsT⟩, ⟨⟨rfl, _, (Ev.rfl' rfl), cellsT⟩, trivial⟩⟩ (by rfl) nrmT) ?_
  refine JL_s0 (op_storeN (Ev.rfl' rfl) (Ev.rfl' rfl) cellsT replT nrmT (by rfl) (by rfl) (by rfl)) ?_
  refine JL_nil ?_
  refine JQ_then (JC_ret ?_)
  rw [unpack_bits]
  exact JQ_ret (Bs := [IsPt ⟨UV (x &&& BitVec.ofInt 32 255), UV (x >>> 8)⟩]) Tryz.results44 ⟨⟨_, _, _, _, rfl, memT, rfl, .inr ⟨rfl, _, rfl, rfl, subT⟩⟩, trivial⟩ () SubL.rfl' (List.nil_sublist _)
end Go.Proofs.YtfkmbdpnjcgimaaGreat

/- Plain laws of sorting in place: what is permuted, what ascends; swaps, rotations, merges. Own work. -/
namespace Go.Proofs.YtfkmbdpnjcgimaaGreat
set_option linter.unusedVariables false
set_option linter.unusedSimpArgs false
section
variable {α : Type}
/-- The places from a to b in another order; all else as it was. -/
structure PI (a b : Nat) (xs ys : List α) : Prop where
  len : ys.length = xs.length
  out : ∀ i, i < a ∨ b ≤ i → ys[i]? = xs[i]?
  perm : ys.Perm xs
variable {a b : Nat} {xs ys zs : List α}
theorem PI.rfl' : PI a b xs xs := ⟨rfl, fun _ _ => rfl, List.Perm.refl _⟩
theorem PI.tr (h : PI a b xs ys) (k : PI a b ys zs) : PI a b xs zs := ⟨k.len.trans h.len, fun i hi => (k.out i hi).trans (h.out i hi), k.perm.trans h.perm⟩
theorem PI.wide {a' b' : Nat} (h : PI a b xs ys) (ha : a' ≤ a) (hb : b ≤ b') : PI a' b' xs ys := ⟨h.len, fun i hi => h.out i (by omega), h.perm⟩
theorem PI.mid (h : PI a b xs ys) (hab : a ≤ b) : ((ys.take b).drop a).Perm ((xs.take b).drop a) := by
  have e1 : ys.take a = xs.take a := by
    apply List.ext_getElem?
    intro i
    rw [List.getElem?_take, List.getElem?_take]
    split
    · exact h.out i (.inl (by assumption))
    · rfl
  have e2 : ys.drop b = xs.drop b := by
    apply List.ext_getElem?
    intro i
    rw [List.getElem?_drop, List.getElem?_drop]
    exact h.out _ (.inr (by omega))
  have s : ∀ l : List α, l = l.take a ++ ((l.take b).drop a ++ l.drop b) := fun l => by
    conv => lhs; rw [← List.take_append_drop b l]
    rw [← List.append_assoc]
    congr 1
    conv => lhs; rw [← List.take_append_drop a (l.take b)]
    rw [List.take_take, Nat.min_eq_left hab]
  have hp := h.perm
  rw [s ys, s xs, e1, e2] at hp
  exact (List.perm_append_right_iff _).1 ((List.perm_append_left_iff _).1 hp)
/-- What lies there now lay there before. -/
theorem PI.mem (h : PI a b xs ys) {p : Nat} {y : α} (h1 : a ≤ p) (h2 : p < b) (hy : ys[p]? = some y) : ∃ q, a ≤ q ∧ q < b ∧ xs[q]? = some y := by
  have hm : y ∈ (ys.take b).drop a := by
    refine List.mem_of_getElem? (i := p - a) ?_
    rw [List.getElem?_drop, List.getElem?_take, if_pos (by omega), show a + (p - a) = p by omega]; exact hy
  have hm2 := (h.mid (by omega)).mem_iff.1 hm
  obtain ⟨i, hi⟩ := List.getElem?_of_mem hm2
  rw [List.getElem?_drop, List.getElem?_take] at hi
  split at hi
  · exact ⟨a + i, by omega, by assumption, hi⟩
  · cases hi
theorem sw_get {i j : Nat} {x y : α} (hx : xs[i]? = some x) (hy : xs[j]? = some y) (k : Nat) : ((xs.set i y).set j x)[k]? = if k = j then some x else if k = i then some y else xs[k]? := by
  have hi := (List.getElem?_eq_some_iff.1 hx).1
  have hj := (List.getElem?_eq_some_iff.1 hy).1
  rw [List.getElem?_set, List.getElem?_set]
  by_cases h1 : j = k
  · subst h1; simp [hj]
  · rw [if_neg h1, if_neg (Ne.symm h1)]
    by_cases h2 : i = k
    · subst h2; simp [hi]
    · rw [if_neg h2, if_neg (Ne.symm h2)]
theorem sw_PI {i j : Nat} {x y : α} (hx : xs[i]? = some x) (hy : xs[j]? = some y) (hi : a ≤ i ∧ i < b) (hj : a ≤ j ∧ j < b) : PI a b xs ((xs.set i y).set j x) := by
  have li := (List.getElem?_eq_some_iff.1 hx).1
  have lj := (List.getElem?_eq_some_iff.1 hy).1
  refine ⟨by simp, fun k hk => ?_, ?_⟩
  · rw [sw_get hx hy, if_neg (by omega), if_neg (by omega)]
  · have hx' : xs[i] = x := (List.getElem?_eq_some_iff.1 hx).2
    have hy' : xs[j] = y := (List.getElem?_eq_some_iff.1 hy).2
    have := List.set_set_perm li lj
    rw [hx', hy'] at this
    exact this
variable {key : α → Int}
/-- From a to b the keys do not fall. -/
def Srt (key : α → Int) (a b : Nat) (xs : List α) : Prop := ∀ i j x y, a ≤ i → i < j → j < b → xs[i]? = some x → xs[j]? = some y → key x ≤ key y
theorem Srt.sub {a' b' : Nat} (h : Srt key a b xs) (ha : a ≤ a') (hb : b' ≤ b) : Srt key a' b' xs := fun i j x y h1 h2 h3 => h i j x y (by omega) h2 (by omega)
theorem Srt.one (h : b ≤ a + 1) : Srt key a b xs := fun i j x y h1 h2 h3 => by omega
theorem Srt.same (h : Srt key a b xs) (he : ∀ i, a ≤ i → i < b → ys[i]? = xs[i]?) : Srt key a b ys := fun i j x y h1 h2 h3 hx hy =>
  h i j x y h1 h2 h3 (by rw [← he i h1 (by omega)]; exact hx) (by rw [← he j (by omega) h3]; exact hy)
theorem Srt.le (h : Srt key a b xs) {i j : Nat} {x y : α} (h1 : a ≤ i) (h2 : i ≤ j) (h3 : j < b) (hx : xs[i]? = some x) (hy : xs[j]? = some y) : key x ≤ key y := by
  rcases Nat.lt_or_ge i j with hl | hl
  · exact h i j x y h1 hl h3 hx hy
  · have : i = j := by omega
    subst this
    rw [hx] at hy; cases hy; exact Int.le_refl _
/-- All but what lies at j ascends; what lies behind j is no less than it. -/
structure Flt (key : α → Int) (a i j : Nat) (zs : List α) : Prop where
  rest : ∀ p q x y, a ≤ p → p < q → q ≤ i → p ≠ j → q ≠ j → zs[p]? = some x → zs[q]? = some y → key x ≤ key y
  up : ∀ q x y, j < q → q ≤ i → zs[j]? = some x → zs[q]? = some y → key x ≤ key y
theorem Flt.start {i : Nat} (h : Srt key a i zs) : Flt key a i i zs := ⟨fun p q x y h1 h2 h3 h4 h5 hx hy => h p q x y h1 h2 (by omega) hx hy, fun q x y h1 h2 => by omega⟩
theorem Flt.step {i j : Nat} {x y : α} (h : Flt key a i j zs) (hj : a < j) (hji : j ≤ i) (hx : zs[j]? = some x) (hy : zs[j - 1]? = some y) (hlt : key x < key y) : Flt key a i (j - 1) ((zs.set j y).set (j - 1) x) := by
  have hg := sw_get hx hy
  refine ⟨fun p q u v h1 h2 h3 h4 h5 hu hv => ?_, fun q u v h1 h2 hu hv => ?_⟩
  · rw [hg] at hu hv
    rw [if_neg h4] at hu
    rw [if_neg h5] at hv
    by_cases hp : p = j
    · rw [if_pos hp] at hu; cases hu
      rw [if_neg (by omega)] at hv
      exact h.rest (j - 1) q y v (by omega) (by omega) h3 (by omega) (by omega) hy hv
    · rw [if_neg hp] at hu
      by_cases hq : q = j
      · rw [if_pos hq] at hv; cases hv
        exact h.rest p (j - 1) u y h1 (by omega) (by omega) hp (by omega) hu hy
      · rw [if_neg hq] at hv
        exact h.rest p q u v h1 h2 h3 hp hq hu hv
  · rw [hg] at hu hv
    rw [if_pos rfl] at hu; cases hu
    rw [if_neg (by omega)] at hv
    by_cases hq : q = j
    · rw [if_pos hq] at hv; cases hv; omega
    · rw [if_neg hq] at hv
      exact h.up q x v (by omega) h2 hx hv
theorem Flt.done {i j : Nat} (h : Flt key a i j zs) (hji : j ≤ i) (he : j = a ∨ (a < j ∧ ∀ x y, zs[j]? = some x → zs[j - 1]? = some y → key y ≤ key x)) : Srt key a (i + 1) zs := by
  intro p q u v h1 h2 h3 hu hv
  by_cases hp : p = j
  · subst hp; exact h.up q u v h2 (by omega) hu hv
  · by_cases hq : q = j
    · subst hq
      rcases he with he | ⟨hlt, he⟩
      · omega
      · have hl := (List.getElem?_eq_some_iff.1 hv).1
        obtain ⟨y, hy⟩ : ∃ y, zs[q - 1]? = some y := ⟨zs[q - 1], List.getElem?_eq_getElem (by omega)⟩
        have h4 := he v y hv hy
        by_cases hpq : p = q - 1
        · subst hpq; rw [hu] at hy; cases hy; exact h4
        · exact Int.le_trans (h.rest p (q - 1) u y h1 (by omega) (by omega) hp (by omega) hu hy) h4
    · exact h.rest p q u v h1 h2 (by omega) hp hq hu hv
/-- Two ranges of n places have changed theirs. -/
def swF (xs : List α) (a b n k : Nat) : Option α := if a ≤ k ∧ k < a + n then xs[b + (k - a)]? else if b ≤ k ∧ k < b + n then xs[a + (k - b)]? else xs[k]?
theorem swF_step {n : Nat} {x y : α} (hab : a + n < b) (hz : ∀ k, zs[k]? = swF xs a b n k) (hx : zs[a + n]? = some x) (hy : zs[b + n]? = some y) (k : Nat) : ((zs.set (a + n) y).set (b + n) x)[k]? = swF xs a b (n + 1) k := by
  rw [sw_get hx hy]
  have h1 := hz (a + n)
  have h2 := hz (b + n)
  rw [hx] at h1
  rw [hy] at h2
  unfold swF at h1 h2
  rw [if_neg (by omega), if_neg (by omega)] at h1
  rw [if_neg (by omega), if_neg (by omega)] at h2
  by_cases e1 : k = b + n
  · subst e1
    rw [if_pos rfl, h1]
    unfold swF
    rw [if_neg (by omega), if_pos (by omega)]
    congr 1; omega
  · rw [if_neg e1]
    by_cases e2 : k = a + n
    · subst e2
      rw [if_pos rfl, h2]
      unfold swF
      rw [if_pos (by omega)]
      congr 1; omega
    · rw [if_neg e2, hz]
      unfold swF
      by_cases e3 : a ≤ k ∧ k < a + n
      · rw [if_pos e3, if_pos (by omega)]
      · rw [if_neg e3, if_neg (c := a ≤ k ∧ k < a + (n + 1)) (by omega)]
        by_cases e4 : b ≤ k ∧ k < b + n
        · rw [if_pos e4, if_pos (by omega)]
        · rw [if_neg e4, if_neg (by omega)]
/-- The places from a to m and those from m to b, turned round. -/
def rotF (f : Nat → Option α) (a m b k : Nat) : Option α := if a ≤ k ∧ k < a + (b - m) then f (m + (k - a)) else if a + (b - m) ≤ k ∧ k < b then f (k - (b - m)) else f k
theorem rot_left {m i j : Nat} {f g : Nat → Option α} (hi : i ≤ m) (h0 : 0 < j) (hij : j < i) (hg : ∀ k, g k = if m - i ≤ k ∧ k < m - i + j then f (m + (k - (m - i))) else if m ≤ k ∧ k < m + j then f (m - i + (k - m)) else f k) (k : Nat) :
    rotF g (m - (i - j)) m (m + j) k = rotF f (m - i) m (m + j) k := by
  unfold rotF
  rw [show m + j - m = j by omega]
  by_cases h1 : m - i ≤ k ∧ k < m - i + j
  · rw [if_neg (by omega), if_neg (by omega), if_pos h1, hg, if_pos h1]
  · rw [if_neg (c := m - i ≤ k ∧ k < m - i + j) h1]
    by_cases h2 : m - i + j ≤ k ∧ k < m + j
    · rw [if_pos (c := m - i + j ≤ k ∧ k < m + j) h2]
      by_cases h3 : m - (i - j) ≤ k ∧ k < m - (i - j) + j
      · rw [if_pos h3, hg, if_neg (by omega), if_pos (by omega)]
        congr 1; omega
      · rw [if_neg h3, if_pos (by omega), hg, if_neg (by omega), if_neg (by omega)]
    · rw [if_neg h2, if_neg (by omega), if_neg (by omega), hg, if_neg h1, if_neg (by omega)]
theorem rot_right {m i j : Nat} {f g : Nat → Option α} (hi : i ≤ m) (h0 : 0 < i) (hij : i < j) (hg : ∀ k, g k = if m - i ≤ k ∧ k < m - i + i then f (m + j - i + (k - (m - i))) else if m + j - i ≤ k ∧ k < m + j - i + i then f (m - i + (k - (m + j - i))) else f k) (k : Nat) :
    rotF g (m - i) m (m + (j - i)) k = rotF f (m - i) m (m + j) k := by
  unfold rotF
  rw [show m + j - m = j by omega, show m + (j - i) - m = j - i by omega]
  by_cases h1 : m - i ≤ k ∧ k < m - i + (j - i)
  · rw [if_pos h1, if_pos (by omega), hg]
    by_cases h2 : m ≤ m + (k - (m - i)) ∧ m + (k - (m - i)) < m + j - i
    · rw [if_neg (by omega), if_neg (by omega)]
    · omega
  · rw [if_neg (c := m - i ≤ k ∧ k < m - i + (j - i)) h1]
    by_cases h2 : m - i + (j - i) ≤ k ∧ k < m + (j - i)
    · rw [if_pos (c := m - i + (j - i) ≤ k ∧ k < m + (j - i)) h2, hg, if_pos (by omega), if_pos (by omega)]
      congr 1; omega
    · rw [if_neg (c := m - i + (j - i) ≤ k ∧ k < m + (j - i)) h2, hg]
      by_cases h3 : k < m - i
      · rw [if_neg (by omega), if_neg (by omega), if_neg (by omega), if_neg (by omega)]
      · by_cases h4 : k < m + j
        · rw [if_neg (c := m - i ≤ k ∧ k < m - i + i) (by omega), if_pos (c := m + j - i ≤ k ∧ k < m + j - i + i) (by omega), if_neg (by omega), if_pos (by omega)]
          congr 1; omega
        · rw [if_neg (by omega), if_neg (by omega), if_neg (by omega), if_neg (by omega)]
theorem rot_even {m i : Nat} {f g : Nat → Option α} (hi : i ≤ m) (hg : ∀ k, g k = if m - i ≤ k ∧ k < m - i + i then f (m + (k - (m - i))) else if m ≤ k ∧ k < m + i then f (m - i + (k - m)) else f k) (k : Nat) :
    g k = rotF f (m - i) m (m + i) k := by
  unfold rotF
  rw [show m + i - m = i by omega, hg]
  by_cases h1 : m - i ≤ k ∧ k < m - i + i
  · rw [if_pos h1, if_pos h1]
  · rw [if_neg h1, if_neg h1]
    by_cases h2 : m ≤ k ∧ k < m + i
    · rw [if_pos h2, if_pos (by omega)]
      congr 1; omega
    · rw [if_neg h2, if_neg (by omega)]
theorem rotF_none {m : Nat} {f : Nat → Option α} (h : m = a ∨ m = b) (ham : a ≤ m) (hmb : m ≤ b) (k : Nat) : rotF f a m b k = f k := by
  unfold rotF
  rcases h with rfl | rfl
  · by_cases h1 : m ≤ k ∧ k < m + (b - m)
    · rw [if_pos h1]; congr 1; omega
    · rw [if_neg h1, if_neg (by omega)]
  · rw [if_neg (by omega)]
    by_cases h2 : a + (m - m) ≤ k ∧ k < m
    · rw [if_pos h2]; congr 1; omega
    · rw [if_neg h2]
end
/-! ### The merge -/
section
variable {α : Type} {key : α → Int} {a m b st mid en : Nat} {xs ys zs : List α}
/-- All that lies before mid is no more than what lies behind. -/
def Crs (key : α → Int) (a mid b : Nat) (xs : List α) : Prop := ∀ p q x y, a ≤ p → p < mid → mid ≤ q → q < b → xs[p]? = some x → xs[q]? = some y → key x ≤ key y
theorem Crs.join (h1 : Srt key a mid xs) (h2 : Srt key mid b xs) (h : Crs key a mid b xs) : Srt key a b xs := fun i j x y e1 e2 e3 hx hy => by
  by_cases hi : i < mid
  · by_cases hj : j < mid
    · exact h1 i j x y e1 e2 hj hx hy
    · exact h i j x y e1 hi (by omega) e3 hx hy
  · exact h2 i j x y (by omega) e2 e3 hx hy
theorem Crs.left (h : Crs key a mid b xs) (hp : PI a mid xs ys) : Crs key a mid b ys := fun p q x y e1 e2 e3 e4 hx hy => by
  obtain ⟨p', f1, f2, f3⟩ := hp.mem e1 e2 hx
  exact h p' q x y f1 f2 e3 e4 f3 (by rw [← hp.out q (.inr e3)]; exact hy)
theorem Crs.right (h : Crs key a mid b xs) (hp : PI mid b xs ys) : Crs key a mid b ys := fun p q x y e1 e2 e3 e4 hx hy => by
  obtain ⟨q', f1, f2, f3⟩ := hp.mem e3 e4 hy
  exact h p q' x y e1 e2 f1 f2 (by rw [← hp.out p (.inl e2)]; exact hx) f3
/-- What the rotation of a merge leaves. -/
theorem merge_rot (hlen : b ≤ xs.length) (h1 : Srt key a m xs) (h2 : Srt key m b xs) (e0 : a ≤ st) (e1 : st ≤ m) (e2 : m ≤ en) (e3 : en ≤ b) (e4 : mid + m = st + en) (he1 : st ≤ mid)
    (c1 : st = a ∨ en = b ∨ ∀ x y, xs[st - 1]? = some x → xs[en]? = some y → key x ≤ key y) (c2 : st = m ∨ en = m ∨ ∀ x y, xs[en - 1]? = some x → xs[st]? = some y → key x ≤ key y)
    (hr : ∀ k, ys[k]? = rotF (fun k => xs[k]?) st m en k) : Srt key a st ys ∧ Srt key st mid ys ∧ Srt key mid en ys ∧ Srt key en b ys ∧ Crs key a mid b ys := by
  have hmid : st + (en - m) = mid := by omega
  have g1 : ∀ k, k < st → ys[k]? = xs[k]? := fun k hk => by rw [hr]; unfold rotF; rw [if_neg (by omega), if_neg (by omega)]
  have g2 : ∀ k, st ≤ k → k < mid → ys[k]? = xs[m + (k - st)]? := fun k h3 h4 => by rw [hr]; unfold rotF; rw [if_pos (by omega)]
  have g3 : ∀ k, mid ≤ k → k < en → ys[k]? = xs[k - (en - m)]? := fun k h3 h4 => by rw [hr]; unfold rotF; rw [if_neg (by omega), if_pos (by omega)]
  have g4 : ∀ k, en ≤ k → ys[k]? = xs[k]? := fun k hk => by rw [hr]; unfold rotF; rw [if_neg (by omega), if_neg (by omega)]
  have s1 : Srt key a st ys := (h1.sub (Nat.le_refl _) e1).same fun i _ hi => g1 i hi
  have s4 : Srt key en b ys := (h2.sub e2 (Nat.le_refl _)).same fun i hi _ => g4 i hi
  have s2 : Srt key st mid ys := fun i j x y q1 q2 q3 hx hy => h2 (m + (i - st)) (m + (j - st)) x y (by omega) (by omega) (by omega) (by rw [← g2 i q1 (by omega)]; exact hx) (by rw [← g2 j (by omega) q3]; exact hy)
  have s3 : Srt key mid en ys := fun i j x y q1 q2 q3 hx hy => h1 (i - (en - m)) (j - (en - m)) x y (by omega) (by omega) (by omega) (by rw [← g3 i q1 (by omega)]; exact hx) (by rw [← g3 j (by omega) q3]; exact hy)
  refine ⟨s1, s2, s3, s4, fun p q x y q1 q2 q3 q4 hx hy => ?_⟩
  -- the left half's elements and the right half's
  have get : ∀ k, k < b → ∃ z, xs[k]? = some z := fun k hk => ⟨xs[k], List.getElem?_eq_getElem (by omega)⟩
  by_cases hp : p < st
  · have hx' : xs[p]? = some x := by rw [← g1 p hp]; exact hx
    by_cases hq : q < en
    · have hy' : xs[q - (en - m)]? = some y := by rw [← g3 q q3 hq]; exact hy
      exact h1.le q1 (by omega) (by omega) hx' hy'
    · have hy' : xs[q]? = some y := by rw [← g4 q (by omega)]; exact hy
      rcases c1 with c1 | c1 | c1
      · omega
      · omega
      · obtain ⟨u, hu⟩ := get (st - 1) (by omega)
        obtain ⟨v, hv⟩ := get en (by omega)
        exact Int.le_trans (h1.le q1 (by omega) (by omega) hx' hu) (Int.le_trans (c1 u v hu hv) (h2.le e2 (by omega) q4 hv hy'))
  · have hx' : xs[m + (p - st)]? = some x := by rw [← g2 p (by omega) q2]; exact hx
    by_cases hq : q < en
    · have hy' : xs[q - (en - m)]? = some y := by rw [← g3 q q3 hq]; exact hy
      rcases c2 with c2 | c2 | c2
      · omega
      · omega
      · obtain ⟨u, hu⟩ := get (en - 1) (by omega)
        obtain ⟨v, hv⟩ := get st (by omega)
        exact Int.le_trans (h2.le (by omega) (by omega) (by omega) hx' hu) (Int.le_trans (c2 u v hu hv) (h1.le e0 (by omega) (by omega) hv hy'))
    · have hy' : xs[q]? = some y := by rw [← g4 q (by omega)]; exact hy
      exact h2.le (by omega) (by omega) q4 hx' hy'
/-! ### One element put into its place -/
/-- x travels from a to the right: what lies before it and what it will still pass is less. -/
structure Rgt (key : α → Int) (a b i k : Nat) (x : α) (zs : List α) : Prop where
  at_ : zs[k]? = some x
  rest : ∀ p q u v, a ≤ p → p < q → q < b → p ≠ k → q ≠ k → zs[p]? = some u → zs[q]? = some v → key u ≤ key v
  lo : ∀ p u, a ≤ p → p < i → p ≠ k → zs[p]? = some u → key u ≤ key x
  hi : ∀ p u, i ≤ p → p < b → zs[p]? = some u → key x ≤ key u
theorem Rgt.step {i k : Nat} {x y : α} (h : Rgt key a b i k x zs) (h1 : a ≤ k) (h2 : k + 1 < i) (h3 : i ≤ b) (hy : zs[k + 1]? = some y) : Rgt key a b i (k + 1) x ((zs.set k y).set (k + 1) x) := by
  have hg := sw_get h.at_ hy
  refine ⟨by rw [hg, if_pos rfl], fun p q u v f1 f2 f3 f4 f5 hu hv => ?_, fun p u f1 f2 f3 hu => ?_, fun p u f1 f2 hu => ?_⟩
  · rw [hg, if_neg f4] at hu
    rw [hg, if_neg f5] at hv
    by_cases hp : p = k
    · rw [if_pos hp] at hu; cases hu
      rw [if_neg (by omega)] at hv
      exact h.rest (k + 1) q y v (by omega) (by omega) f3 (by omega) (by omega) hy hv
    · rw [if_neg hp] at hu
      by_cases hq : q = k
      · rw [if_pos hq] at hv; cases hv
        exact h.rest p (k + 1) u y f1 (by omega) (by omega) hp (by omega) hu hy
      · rw [if_neg hq] at hv
        exact h.rest p q u v f1 f2 f3 hp hq hu hv
  · rw [hg, if_neg f3] at hu
    by_cases hp : p = k
    · rw [if_pos hp] at hu; cases hu
      exact h.lo (k + 1) y (by omega) h2 (by omega) hy
    · rw [if_neg hp] at hu
      exact h.lo p u f1 f2 hp hu
  · rw [hg, if_neg (by omega), if_neg (by omega)] at hu
    exact h.hi p u f1 f2 hu
theorem Rgt.done {i k : Nat} {x : α} (h : Rgt key a b i k x zs) (hk : k + 1 = i) : Srt key a b zs := fun p q u v f1 f2 f3 hu hv => by
  by_cases hp : p = k
  · subst hp; rw [h.at_] at hu; cases hu
    exact h.hi q v (by omega) f3 hv
  · by_cases hq : q = k
    · subst hq; rw [h.at_] at hv; cases hv
      exact h.lo p u f1 (by omega) hp hu
    · exact h.rest p q u v f1 f2 f3 hp hq hu hv
/-- x travels from m to the left. -/
structure Lft (key : α → Int) (a b i k : Nat) (x : α) (zs : List α) : Prop where
  at_ : zs[k]? = some x
  rest : ∀ p q u v, a ≤ p → p < q → q < b → p ≠ k → q ≠ k → zs[p]? = some u → zs[q]? = some v → key u ≤ key v
  lo : ∀ p u, a ≤ p → p < i → zs[p]? = some u → key u ≤ key x
  hi : ∀ p u, i ≤ p → p < b → p ≠ k → zs[p]? = some u → key x ≤ key u
theorem Lft.step {i k : Nat} {x y : α} (h : Lft key a b i k x zs) (h0 : a ≤ i) (h1 : i < k) (h2 : k < b) (hy : zs[k - 1]? = some y) : Lft key a b i (k - 1) x ((zs.set k y).set (k - 1) x) := by
  have hg := sw_get h.at_ hy
  refine ⟨by rw [hg, if_pos rfl], fun p q u v f1 f2 f3 f4 f5 hu hv => ?_, fun p u f1 f2 hu => ?_, fun p u f1 f2 f3 hu => ?_⟩
  · rw [hg, if_neg f4] at hu
    rw [hg, if_neg f5] at hv
    by_cases hp : p = k
    · rw [if_pos hp] at hu; cases hu
      rw [if_neg (by omega)] at hv
      exact h.rest (k - 1) q y v (by omega) (by omega) f3 (by omega) (by omega) hy hv
    · rw [if_neg hp] at hu
      by_cases hq : q = k
      · rw [if_pos hq] at hv; cases hv
        exact h.rest p (k - 1) u y f1 (by omega) (by omega) hp (by omega) hu hy
      · rw [if_neg hq] at hv
        exact h.rest p q u v f1 f2 f3 hp hq hu hv
  · rw [hg, if_neg (by omega), if_neg (by omega)] at hu
    exact h.lo p u f1 f2 hu
  · rw [hg, if_neg f3] at hu
    by_cases hp : p = k
    · rw [if_pos hp] at hu; cases hu
      exact h.hi (k - 1) y (by omega) (by omega) (by omega) hy
    · rw [if_neg hp] at hu
      exact h.hi p u f1 f2 hp hu
theorem Lft.done {i : Nat} {x : α} (h : Lft key a b i i x zs) : Srt key a b zs := fun p q u v f1 f2 f3 hu hv => by
  by_cases hp : p = i
  · subst hp; rw [h.at_] at hu; cases hu
    exact h.hi q v (by omega) f3 (by omega) hv
  · by_cases hq : q = i
    · subst hq; rw [h.at_] at hv; cases hv
      exact h.lo p u f1 f2 hu
    · exact h.rest p q u v f1 f2 f3 hp hq hu hv
/-! ### Blocks -/
/-- Each block of s places ascends. -/
def Blks (key : α → Int) (s n : Nat) (xs : List α) : Prop := ∀ k, Srt key (k * s) (min ((k + 1) * s) n) xs
theorem Blks.done {s n : Nat} (h : Blks key s n xs) (hs : n ≤ s) : Srt key 0 n xs := by
  have := h 0
  rw [Nat.zero_mul, Nat.zero_add, Nat.one_mul, Nat.min_eq_right hs] at this
  exact this
end
/-! ### What ascends by distinct keys is one list -/
section
variable {α : Type} {key : α → Int}
theorem asc_unique : ∀ {xs ys : List α}, xs.Perm ys → xs.Pairwise (fun x y => key x < key y) → ys.Pairwise (fun x y => key x < key y) → xs = ys
  | [], ys, h, _, _ => by rw [h.nil_eq]
  | x :: xs, [], h, _, _ => by exact absurd h.symm.nil_eq (by simp)
  | x :: xs, y :: ys, h, h1, h2 => by
    obtain ⟨a1, a2⟩ := List.pairwise_cons.1 h1
    obtain ⟨b1, b2⟩ := List.pairwise_cons.1 h2
    have hxy : x = y := by
      rcases List.mem_cons.1 (h.mem_iff.1 (List.mem_cons_self ..)) with e | hx
      · exact e
      · rcases List.mem_cons.1 (h.mem_iff.2 (List.mem_cons_self ..)) with e | hy
        · exact e.symm
        · have := b1 x hx
          have := a1 y hy
          omega
    subst hxy
    rw [asc_unique ((List.perm_cons x).1 h) a2 b2]
theorem srt_asc {xs : List α} (h : Srt key 0 xs.length xs) (hd : (xs.map key).Nodup) : xs.Pairwise (fun x y => key x < key y) := by
  rw [List.pairwise_iff_getElem]
  intro i j hi hj hij
  have h1 := h i j xs[i] xs[j] (Nat.zero_le _) hij hj (List.getElem?_eq_getElem hi) (List.getElem?_eq_getElem hj)
  have h2 : key xs[i] ≠ key xs[j] := fun e => by
    have h3 := (List.getElem_inj (i := i) (j := j) (h₀ := by simpa using hi) (h₁ := by simpa using hj) hd).1 (by simpa using e)
    omega
  omega
end
end Go.Proofs.YtfkmbdpnjcgimaaGreat

/- Rules: parts of a row of one's own; the nil slice cut and grown; clear. Own work. -/
namespace Go.Proofs.YtfkmbdpnjcgimaaGreat
open Go.RowKit
set_option linter.unusedVariables false
set_option linter.unusedSimpArgs false
section
variable {P : Program} {c : Ctx} {A : Nat → Option VP} {L : List Item} {d : Option Tmp} {ty : TypeId} {pos : String} {af : Array Edge} {g : Option (Nat × Bool)}
variable {α : Type} {T : Ty α} {xs ys : List α} {x y : Operand} {t u e : TypeId} {i : Option Addr × Nat} {n : Nat}
/-- What is one's own, told otherwise, serves an operation. -/
theorem OpS.conv {o : Oper} {L1 : List Item} {ι : Type} {F : ι → VP} {L' : ι → List Item} (hc : ∀ φ w, HP c φ L w → HP c φ L1 w) (h : OpS P c o A L1 F L') : OpS P c o A L F L' := by
  intro φ a w K Q hm he hk
  refine h φ a w K Q (hc φ w hm) (fun x hx B hB => ?_) hk
  obtain ⟨D, h1, h2⟩ := hB
  exact h2 _ _ (hc φ w hm).mem.facts (he x hx D (.rfl' h1))
theorem OpP.conv {o : Oper} {L1 : List Item} {F : VP} (hc : ∀ φ w, HP c φ L w → HP c φ L1 w) (h : OpP P c o A L1 F) : OpP P c o A L F := by
  intro φ a w K Q hm he hk
  refine h φ a w K Q (hc φ w hm) (fun x hx B hB => ?_) hk
  obtain ⟨D, h1, h2⟩ := hB
  exact h2 _ _ (hc φ w hm).mem.facts (he x hx D (.rfl' h1))
theorem own_val {φ : Fz} {w : World} (hm : HP c φ L w) (hL : buf (slV n i) e T xs ∈ L) : n = xs.length ∧ n ≤ i.2 ∧ i.2 ≤ maxLen ∧ (i.1 = none → i.2 = 0 ∧ n = 0) := by
  obtain ⟨flat, f1, f2, f3⟩ := buf_owns (hm.mem.items _ hL)
  obtain ⟨a, cp⟩ := i
  rcases f3.2 with ⟨h1, h0⟩ | ⟨gg, cap, cur, e1, _, e2, e3, e4, e5, e6⟩
  · unfold slV at h1
    injection h1 with h1 h2 h3
    dsimp only at h1 h2 h3
    subst h1 h2 h3
    exact ⟨h0.symm, Nat.le_refl _, Nat.zero_le _, fun _ => ⟨rfl, rfl⟩⟩
  · unfold slV at e1
    injection e1 with e7 e8 e9
    dsimp only at e7 e8 e9
    subst e7 e8 e9
    exact ⟨rfl, e3, e4, fun h => by cases h⟩
theorem op_capNil (hx : Ev A L x (Is (.slice none 0 0))) (hu : P.underlying t = some (.slice e)) : OpP P c ⟨d, .call { callee := .builtin .cap, args := #[x], argTypes := #[t] }, ty, pos, af, g⟩ A L (Is (.int .i64 0)) :=
  opp fun φ a w hm he => by
    have h1 : a.eval x = .slice none 0 0 := he x (by simp [Op.operands, Call.operands]) _ hx
    refine ⟨_, ?_, rfl⟩
    have h3 : (#[x].map a.eval) = #[.slice none 0 0] := by simp [h1]
    simp only [execOp, resolve, h3, Sem.run_bind, Sem.run_pure, Result.andThen_ok, invoke, builtin, Builtin.cap_, run_underlying hu]
    simp [run_underlying hu]
    rfl
theorem op_sliceNil {lo hi : Option Operand} (hx : Ev A L x (Is (.slice none 0 0))) (hu : P.underlying t = some (.slice e)) {sz : Nat} (hs : (P.info? e).map (·.size) = some sz) (hl : opN A L 0 lo 0) (hh : opN A L 0 hi 0) : OpP P c ⟨d, .slice t x lo hi none, ty, pos, af, g⟩ A L (Is (.slice none 0 0)) :=
  opp fun φ a w hm he => by
    have h1 : a.eval x = .slice none 0 0 := he x (by simp [Op.operands]) _ hx
    have hlo : ∀ y, lo = some y → ∃ k, a.eval y = .int k ((0 : Nat) : Int) := fun y hy => by
      subst hy
      obtain ⟨k, i, h3, h4⟩ := hl
      have h5 : a.eval y = .int k i := he y (by simp [Op.operands]) _ h3
      exact ⟨k, by rw [h5, h4]⟩
    have hhi : ∀ y, hi = some y → ∃ k, a.eval y = .int k ((0 : Nat) : Int) := fun y hy => by
      subst hy
      obtain ⟨k, i, h3, h4⟩ := hh
      have h5 : a.eval y = .int k i := he y (by simp [Op.operands]) _ h3
      exact ⟨k, by rw [h5, h4]⟩
    have hb := run_bounds (P := P) (a := a) (lo := lo) (hi := hi) (l := 0) (h := 0) (n := 0) (cp := 0) hlo (fun _ => rfl) hhi (fun _ => rfl) (Nat.le_refl _) (Nat.le_refl _) (Nat.le_refl _) w
    refine ⟨_, ?_, rfl⟩
    simp only [execOp, h1]
    refine run_val ?_
    simp only [Instr.sliceAt, Sem.run_bind, run_underlying hu, Result.andThen_ok, Instr.slice]
    simp only [Option.map_none] at hb ⊢
    simp only [hb, Result.andThen_ok, run_sizeOf hs, Sem.run_pure, if_true, Nat.sub_self]
/-- append(nil, make(n)...). -/
theorem op_appMake (T : Ty α) (z0 : α) {tn : TypeId} {kn kq : IntKind} {z : Value} {bytes k : Nat} (hx : Ev A L x (Is (.slice none 0 0))) (hy : Ev A L y (Is (.int kq (k : Int)))) (hu : P.underlying t = some (.slice e)) (hn : P.underlying tn = some (.int kn))
    (hinfo : (P.info? e).map (fun i => (i.zero, i.size, i.bytes)) = some (some z, T.size, bytes)) (hz : z.cells.size = T.size) (hzs : Nat.blt 0 T.size = true) (hb : Nat.ble bytes 100000 = true) (h0 : 0 < k) (hk : k ≤ 1048576)
    (hT : T.cells z0 = (zcells z).map Is) (h1 : ((zcells z).all Value.oneCell') = true) :
    OpN P c ⟨d, .call { callee := .builtin .append, args := #[x, y], argTypes := #[t, tn] }, ty, pos, af, g⟩ A L (slV k) (fun i => buf (slV k i) e T (List.replicate k z0)) := by
  intro φ a w K Q hm he hK
  have e1 : a.eval x = .slice none 0 0 := he x (by simp [Op.operands, Call.operands]) _ hx
  have e2 : a.eval y = .int kq (k : Int) := he y (by simp [Op.operands, Call.operands]) _ hy
  obtain ⟨i, hi, hzz⟩ := Option.map_eq_some_iff.1 hinfo
  simp only [Prod.mk.injEq] at hzz
  obtain ⟨hzi, hsi, hbi⟩ := hzz
  have hb' := Nat.le_of_ble_eq_true hb
  have hs' : 0 < T.size := Nat.le_of_ble_eq_true hzs
  have hkb := Nat.mul_le_mul hk hb'
  have hold : (Builtin.firstCells i.size 0 (.slice none 0 0)).run P w.drew = .ok ([] : List Value).toArray w.drew := by
    simp [Builtin.firstCells]
  have hr := Lib.run_append_grow_zeros (P := P) w t tn ty e i z kq kn hu hn hi hzi none 0 0 [] hold k h0 (by omega) (by omega) (by omega) (by rw [hbi]; omega) (by rw [Nat.zero_add, nextslicecap_zero h0, hbi]; omega)
  rw [Nat.zero_add] at hr
  have hrun : (execOp a.eval ⟨d, .call { callee := .builtin .append, args := #[x, y], argTypes := #[t, tn] }, ty, pos, af, g⟩).run P w = .ok (.value (.slice (some ⟨w.heap.size, 0, none⟩) k (grownCap w k 0 e)))
      (w.drew.alloc (.cells (([] : List Value).toArray ++ Builtin.zeroCells z.cells k ++ Builtin.zeroCells z.cells (grownCap w k 0 e - k)) e)) := by
    have h4 : (#[x, y].map a.eval) = #[.slice none 0 0, .int kq (k : Int)] := by simp [e1, e2]
    simp only [execOp, resolve, h4, Sem.run_bind, Sem.run_pure, Result.andThen_ok, invoke, builtin, hr]
  unfold Oper.wp
  rw [hrun]
  have hge := grownCap_ge w k 0 e
  have hzl : ∀ m : Nat, (Builtin.zeroCells z.cells m).toList = (List.replicate m (zcells z)).flatten := fun m => by
    have hzc : z.cells.size = T.size := hz
    apply List.ext_getElem?
    intro j
    have key : ∀ m : Nat, ((List.replicate m (zcells z)).flatten)[j]? = if j < m * T.size then some (z.cells[j % z.cells.size]!) else none := fun m => by
      have hzl : (zcells z).length = T.size := by unfold zcells; rw [Array.length_toList, hzc]
      induction m generalizing j with
      | zero => simp
      | succ m ih =>
        rw [List.replicate_succ, List.flatten_cons]
        rcases Nat.lt_or_ge j T.size with hj | hj
        · rw [List.getElem?_append_left (by omega), if_pos (by rw [Nat.add_mul]; omega)]
          unfold zcells
          rw [Array.getElem?_toList, hzc, Nat.mod_eq_of_lt hj, getElem!_def]
          have : z.cells[j]? = some z.cells[j] := Array.getElem?_eq_getElem (by omega)
          rw [this]
        · rw [List.getElem?_append_right (by omega), ih, hzl]
          have e3 : (j - T.size) % z.cells.size = j % z.cells.size := by
            rw [hzc]
            conv => rhs; rw [show j = (j - T.size) + T.size by omega, Nat.add_mod_right]
          rw [e3, Nat.add_mul]
          by_cases hjm : j - T.size < m * T.size
          · rw [if_pos hjm, if_pos (by omega)]
          · rw [if_neg hjm, if_neg (by omega)]
    rw [key]
    unfold Builtin.zeroCells
    rw [Array.getElem?_toList, Array.getElem?_map, Array.getElem?_range]
    rw [hzc]
    split <;> simp
  have hflat : ∀ m : Nat, ((List.replicate m z0).flatMap T.cells) = ((List.replicate m (zcells z)).flatten).map Is := fun m => by
    induction m with
    | zero => rfl
    | succ m ih => rw [List.replicate_succ, List.flatMap_cons, ih, hT, List.replicate_succ, List.flatten_cons, List.map_append]
  have hlen : ∀ m : Nat, ((List.replicate m (zcells z)).flatten).length = m * T.size := fun m => by
    rw [← hzl]
    simp [Builtin.zeroCells, hz]
  have hones : ones ((List.replicate k (zcells z)).flatten) := fun u hu => by
    obtain ⟨l, hl, hul⟩ := List.mem_flatten.1 hu
    rw [(List.mem_replicate.1 hl).2] at hul
    exact List.all_eq_true.1 h1 u hul
  have hd : HP c φ L w.drew := hm.drew
  have hnew := hp_new (b := 0) (it := buf (slV k (some ⟨w.heap.size, 0, none⟩, grownCap w k 0 e)) e T (List.replicate k z0)) (o := .cells (([] : List Value).toArray ++ Builtin.zeroCells z.cells k ++ Builtin.zeroCells z.cells (grownCap w k 0 e - k)) e) hd rfl
    ⟨(List.replicate k (zcells z)).flatten, by rw [hlen, List.length_replicate], by rw [hflat]; exact alls_is _, hones, .inr ⟨w.heap.size, grownCap w k 0 e, _, by simp [slV], rfl, by rw [List.length_replicate]; exact hge, grownCap_le_maxLen w k 0 e (by unfold maxLen; omega), by
      simp only [Array.size_append, List.size_toArray, List.length_nil, Nat.zero_add]
      have : ∀ m, (Builtin.zeroCells z.cells m).size = m * T.size := fun m => by simp [Builtin.zeroCells, hz]
      rw [this, this, ← Nat.add_mul]; congr 1; omega, by
      rw [List.length_replicate]
      simp only [Array.toList_append, List.nil_append]
      rw [hzl, List.take_append_of_le_length (by rw [hlen]; exact Nat.le_refl _), List.take_of_length_le (by rw [hlen]; exact Nat.le_refl _)]⟩⟩
  exact hK (some ⟨w.heap.size, 0, none⟩, grownCap w k 0 e) φ _ ⟨hnew.mem, ⟨hnew.kept.os, hnew.kept.tape, hnew.kept.output, hnew.kept.size, hnew.kept.block⟩, hnew.mine, hnew.old⟩
/-! ### Parts -/
theorem run_sliceOf {φ : Fz} {a : Act} {w : World} {lo hi : Option Operand} {l h : Nat} {ad : Option Addr} {m cp sz : Nat} (he : ∀ v, v ∈ (Op.slice t x lo hi none).operands → ∀ B, Ev A L v B → B.ok φ (a.eval v)) (hx : a.eval x = .slice ad m cp) (hu : P.underlying t = some (.slice e)) (hs : (P.info? e).map (·.size) = some sz) (hl : opN A L 0 lo l) (hh : opN A L m hi h) (h1 : l ≤ h) (h2 : h ≤ m) (h3 : m ≤ cp) :
    (execOp a.eval ⟨d, .slice t x lo hi none, ty, pos, af, g⟩).run P w = .ok (.value (.slice (if cp = l then ad else ad.map (·.add (l * sz))) (h - l) (cp - l))) w := by
  have hlo : ∀ y, lo = some y → ∃ k, a.eval y = .int k (l : Int) := fun y hy => by
    subst hy
    obtain ⟨k, i, h3, h4⟩ := hl
    have h5 : a.eval y = .int k i := he y (by simp [Op.operands]) _ h3
    exact ⟨k, by rw [h5, h4]⟩
  have hhi : ∀ y, hi = some y → ∃ k, a.eval y = .int k (h : Int) := fun y hy => by
    subst hy
    obtain ⟨k, i, h3, h4⟩ := hh
    have h5 : a.eval y = .int k i := he y (by simp [Op.operands]) _ h3
    exact ⟨k, by rw [h5, h4]⟩
  have hb := run_bounds (P := P) (a := a) (lo := lo) (hi := hi) (l := l) (h := h) (n := m) (cp := cp) hlo (fun e => by subst e; exact hl) hhi (fun e => by subst e; exact hh) h1 h2 h3 w
  simp only [execOp, hx]
  refine run_val ?_
  simp only [Instr.sliceAt, Sem.run_bind, run_underlying hu, Result.andThen_ok, Instr.slice]
  simp only [Option.map_none] at hb ⊢
  simp only [hb, Result.andThen_ok, run_sizeOf hs, Sem.run_pure]
/-- The first h of a row of one's own. -/
theorem op_sliceLo {lo hi : Option Operand} {h sz : Nat} (hx : Ev A L x (Is (slV n i))) (hL : buf (slV n i) e T xs ∈ L) (hu : P.underlying t = some (.slice e)) (hs : (P.info? e).map (·.size) = some sz) (hl : opN A L 0 lo 0) (hh : opN A L n hi h) (h2 : h ≤ n) : OpP P c ⟨d, .slice t x lo hi none, ty, pos, af, g⟩ A L (Is (slV h i)) :=
  opp fun φ a w hm he => by
    obtain ⟨e1, e2, e3, e4⟩ := own_val hm hL
    have h1 : a.eval x = slV n i := he x (by simp [Op.operands]) _ hx
    refine ⟨_, run_sliceOf (A := A) (L := L) (φ := φ) he h1 hu hs hl hh (Nat.zero_le _) h2 e2, ?_⟩
    show _ = slV h i
    obtain ⟨ad, cp⟩ := i
    unfold slV
    dsimp only
    rw [Nat.sub_zero, Nat.sub_zero, Nat.zero_mul]
    cases ad with
    | none => simp
    | some ad => split <;> simp [Addr.add]
theorem slV_own (n h : Nat) (i : Option Addr × Nat) : (slV n i).ownBlock = (slV h i).ownBlock := by
  obtain ⟨a, cp⟩ := i
  cases a <;> rfl
/-- A row of one's own, cut. -/
theorem HP.cutBuf {φ : Fz} {w : World} {h : Nat} {L' : List Item} (hm : HP c φ L w) (hr : Repl L (buf (slV n i) e T xs) (buf (slV h i) e T (xs.take h)) L') (hh : h ≤ xs.length) : HP c φ L' w := by
  have hat : (buf (slV h i) e T (xs.take h)).at_ = (buf (slV n i) e T xs).at_ := slV_own h n i
  refine hm.upd hr (Kpt.refl _ _) ?_ fun b hb => .inr (hat ▸ hb)
  obtain ⟨⟨flat, f0, f1, f2, f3⟩, f4⟩ := hm.mem.items _ hr.mem
  have hl : (xs.take h).length = h := by rw [List.length_take]; omega
  have hle : h * T.size ≤ xs.length * T.size := Nat.mul_le_mul_right _ hh
  refine ⟨⟨flat.take (h * T.size), by rw [List.length_take, f0, hl]; omega, by rw [flat_take]; exact f1.take _, f2.sub fun u hu => List.mem_of_mem_take hu, ?_⟩, fun b hb => f4 b (hat ▸ hb)⟩
  rcases f3 with ⟨h1, h0⟩ | ⟨gg, cap, cur, e1, e2, e3, e4, e5, e6⟩
  · refine .inl ⟨?_, by rw [hl]; omega⟩
    unfold slV at h1 ⊢
    injection h1 with h1 h2 h3
    rw [h1, h3, show h = 0 by omega]
  · refine .inr ⟨gg, cap, cur, ?_, by rw [hat]; exact e2, by rw [hl]; omega, e4, e5, ?_⟩
    · unfold slV at e1 ⊢
      injection e1 with e7 e8 e9
      rw [e7, e9, hl]
    · rw [hl, ← e6, List.take_take, Nat.min_eq_left hle]
theorem JQ_cutBuf {Q : Exit → Act → World → Prop} {N : Nat} {E : Env} {h : Nat} {L' : List Item} {ex : Exit} (hr : Repl L (buf (slV n i) e T xs) (buf (slV h i) e T (xs.take h)) L') (hh : h ≤ xs.length) (k : JQ c N E L' Q ex) : JQ c N E L Q ex := fun φ a w st => k φ a w ⟨st.defers, st.size, st.env, st.mem.cutBuf hr hh⟩
end
end Go.Proofs.YtfkmbdpnjcgimaaGreat

/- A stretch of a drawn region in which some read memory, others write it later, and others again touch none: each pair of which one writes stands in an order; all else comes up as it may. Own work. -/
namespace Go.Proofs.YtfkmbdpnjcgimaaGreat
open Go.RowKit
set_option linter.unusedVariables false
set_option linter.unusedSimpArgs false
section
variable {P : Program} {ops : Array Oper} {c : Ctx} {N : Nat}
/-- One operation: kind 0 touches no memory, 1 reads it, 2 writes it. -/
structure EP where
  i : Nat
  o : Oper
  F : VP
  kd : Nat
  M' : List Item
def EP.ok (P : Program) (c : Ctx) (x : EP) (A : Nat → Option VP) (M : List Item) : Prop :=
  x.o.guard = none ∧ ((x.kd = 0 ∧ OpP P c x.o A [] x.F) ∨ (x.kd = 1 ∧ OpP P c x.o A M x.F) ∨ (x.kd = 2 ∧ OpS P c x.o A M (fun _ : Unit => x.F) (fun _ => x.M')) ∨ (x.kd = 1 ∧ OpS P c x.o A M (fun _ : Unit => x.F) (fun _ => M)))
def accV (p : Nat → Bool) : List EP → (Nat → Option VP) → Nat → Option VP
  | [], A => A
  | x :: l, A => accV p l (bif p x.i then putA A x.o.dst x.F else A)
def accM (p : Nat → Bool) : List EP → List Item → List Item
  | [], M => M
  | x :: l, M => accM p l (bif p x.i && Nat.beq x.kd 2 then x.M' else M)
theorem putA_ne {A : Nat → Option VP} {d : Option Tmp} {B : VP} {t : Nat} (h : d ≠ some t) : putA A d B t = A t := by unfold putA; rw [if_neg h]
theorem putA_eq {A : Nat → Option VP} {B : VP} {t : Nat} : putA A (some t) B t = some B := by unfold putA; rw [if_pos rfl]
theorem accV_congr {p q : Nat → Bool} {t : Nat} {l : List EP} : ∀ {A B : Nat → Option VP}, A t = B t → (∀ x, x ∈ l → x.o.dst = some t → p x.i = q x.i) → accV p l A t = accV q l B t := by
  induction l with
  | nil => intro A B h _; exact h
  | cons y l ih =>
    intro A B h hl
    show accV p l (bif p y.i then putA A y.o.dst y.F else A) t = accV q l (bif q y.i then putA B y.o.dst y.F else B) t
    refine ih ?_ fun x hx => hl x (List.mem_cons_of_mem _ hx)
    by_cases hd : y.o.dst = some t
    · rw [hl y (List.mem_cons_self ..) hd, hd]
      cases q y.i
      · exact h
      · simp only [cond_true]; rw [putA_eq, putA_eq]
    · have e1 : (bif p y.i then putA A y.o.dst y.F else A) t = A t := by cases p y.i <;> simp [putA_ne hd]
      have e2 : (bif q y.i then putA B y.o.dst y.F else B) t = B t := by cases q y.i <;> simp [putA_ne hd]
      rw [e1, e2]; exact h
theorem accV_append (p : Nat → Bool) : ∀ (l l' : List EP) (A : Nat → Option VP), accV p (l ++ l') A = accV p l' (accV p l A)
  | [], _, _ => rfl
  | x :: l, l', A => by simp only [List.cons_append, accV, accV_append p l l']
theorem accV_none (l : List EP) (A : Nat → Option VP) : accV (fun _ => false) l A = A := by
  induction l generalizing A with
  | nil => rfl
  | cons x l ih => exact ih A
theorem accV_skip {p : Nat → Bool} {t : Nat} {l : List EP} {A : Nat → Option VP} (h : ∀ x, x ∈ l → x.o.dst = some t → p x.i = false) : accV p l A t = A t := by
  rw [accV_congr (q := fun _ => false) (A := A) (B := A) rfl h, accV_none]
theorem accM_congr {p q : Nat → Bool} {l : List EP} : ∀ {M : List Item}, (∀ x, x ∈ l → x.kd = 2 → p x.i = q x.i) → accM p l M = accM q l M := by
  induction l with
  | nil => intro M _; rfl
  | cons y l ih =>
    intro M hl
    show accM p l (bif p y.i && Nat.beq y.kd 2 then y.M' else M) = accM q l (bif q y.i && Nat.beq y.kd 2 then y.M' else M)
    by_cases h2 : y.kd = 2
    · rw [hl y (List.mem_cons_self ..) h2]; exact ih fun x hx => hl x (List.mem_cons_of_mem _ hx)
    · have hb : Nat.beq y.kd 2 = false := beq_ff h2
      rw [hb, Bool.and_false, Bool.and_false]; exact ih fun x hx => hl x (List.mem_cons_of_mem _ hx)
theorem accM_append (p : Nat → Bool) : ∀ (l l' : List EP) (M : List Item), accM p (l ++ l') M = accM p l' (accM p l M)
  | [], _, _ => rfl
  | x :: l, l', M => by simp only [List.cons_append, accM, accM_append p l l']
theorem accM_none (l : List EP) (M : List Item) : accM (fun _ => false) l M = M := by
  induction l generalizing M with
  | nil => rfl
  | cons x l ih => exact ih M
theorem accM_skip {p : Nat → Bool} {l : List EP} {M : List Item} (h : ∀ x, x ∈ l → x.kd = 2 → p x.i = false) : accM p l M = M := by
  rw [accM_congr (q := fun _ => false) h, accM_none]
theorem St.congr {A B : Nat → Option VP} {L L' : List Item} {φ : Fz} {a : Act} {w : World} (h : St c N A L φ a w) (e : ∀ t, A t = B t) (e' : L = L') : St c N B L' φ a w := by
  have : A = B := funext e
  subst this; subst e'; exact h
theorem phases {Q : Exit → Act → World → Prop} {nd : List Nat} (hg : Good ops nd) (hN : opsAll (fun _ o => dstB N o.dst) ops.toList 0 = true) {k n : Nat} (hS : stretchB nd ops.size k n = true) (hkn : k + n ≤ ops.size)
    {m : List EP} {A0 : Nat → Option VP} {M0 : List Item} (hm : m.length = n) (hmi : ∀ i x, m[i]? = some x → x.i = k + i ∧ ops[k + i]? = some x.o)
    (hop : ∀ m1 x m2, m = m1 ++ x :: m2 → x.ok P c (accV (fun _ => true) m1 A0) (accM (fun _ => true) m1 M0))
    (hph : ∀ x y, x ∈ m → y ∈ m → x.i < y.i → (x.kd = 2 ∧ y.kd ≠ 0 ∨ x.kd ≠ 0 ∧ y.kd = 2) → (ndOf nd y.i).testBit x.i = true)
    (next : ∀ φ a w listed, Pre ops nd (k + n) listed → St c N (accV (fun _ => true) m A0) (accM (fun _ => true) m M0) φ a w → wpAny P .any ops Q (unl ops.size listed) listed a w) :
    ∀ (u : Nat) (φ : Fz) (a : Act) (w : World) (listed : Array Bool), unl ops.size listed = u → Cl ops nd listed → (∀ i, i < k → listed.getD i true = true) → (∀ i, k + n ≤ i → i < ops.size → listed.getD i true = false) →
      St c N (accV (fun i => listed.getD i false) m A0) (accM (fun i => listed.getD i false) m M0) φ a w → wpAny P .any ops Q u listed a w := by
  intro u
  induction u with
  | zero =>
    intro φ a w listed hu hc hlo hhi st
    have hall := unl_zero hu
    have hk : k + n = ops.size := by
      rcases Nat.lt_or_ge (k + n) ops.size with h | h
      · have h1 := hall _ h; have h2 := hhi (k + n) (Nat.le_refl _) h; rw [h1] at h2; cases h2
      · omega
    have hall2 : ∀ x, x ∈ m → listed.getD x.i false = true := fun x hx => by
      obtain ⟨i, hi⟩ := List.mem_iff_getElem?.1 hx
      obtain ⟨e1, e2⟩ := hmi i x hi
      have hlt : k + i < ops.size := (Array.getElem?_eq_some_iff.1 e2).1
      have h1 := hall _ hlt
      have h2 : k + i < listed.size := by rw [hc.size]; exact hlt
      rw [e1]
      simp [h2] at h1 ⊢; exact h1
    rw [← hu]
    exact next φ a w listed ⟨hc, fun i hi => ⟨fun _ => by omega, fun _ => hall i hi⟩⟩ (st.congr (fun t => accV_congr rfl fun x hx _ => hall2 x hx) (accM_congr fun x hx _ => hall2 x hx))
  | succ u ih =>
    intro φ a w listed hu hc hlo hhi st
    by_cases hdone : ∃ i, i < k + n ∧ listed.getD i true = false
    · obtain ⟨i0, hi0, hu0, hl0⟩ := exists_least_unl _ hdone
      have hr0 := ready_least hg hc.size (by omega) hu0 hl0
      refine ⟨fun h => (by rw [h] at hr0; cases hr0), fun i hi => ?_⟩
      obtain ⟨hiu, oi, hoi, hiall⟩ := mem_ready.1 hi
      have hilt : i < ops.size := (Array.getElem?_eq_some_iff.1 hoi).1
      have hik : k ≤ i := by
        rcases Nat.lt_or_ge i k with h | h
        · have := hlo i h; rw [hiu] at this; cases this
        · exact h
      have hin : i < k + n := by
        rcases Nat.lt_or_ge i (k + n) with h | h
        · exact h
        · exfalso
          have hi0k : k ≤ i0 := by
            rcases Nat.lt_or_ge i0 k with h' | h'
            · have := hlo i0 h'; rw [hu0] at this; cases this
            · exact h'
          have h1 := List.all_eq_true.1 hS (i0 - k) (List.mem_range.2 (by omega))
          have h2 := List.all_eq_true.1 h1 i (List.mem_range.2 hilt)
          have h3 : Nat.blt i (k + n) = false := blt_ff (by omega)
          rw [h3, Bool.false_or, show k + (i0 - k) = i0 by omega] at h2
          have h4 := ready_need hg hc hi h2
          rw [getD_tf hu0] at h4; cases h4
      have hp : (i - k) < m.length := by omega
      obtain ⟨x, hx⟩ : ∃ x, m[i - k]? = some x := ⟨m[i - k], by simp [hp]⟩
      obtain ⟨ex1, ex2⟩ := hmi (i - k) x hx
      rw [show k + (i - k) = i by omega] at ex1 ex2
      have hox : x.o = oi := Option.some.inj (ex2.symm.trans hoi)
      obtain ⟨m1, m2, hsplit, hm1⟩ : ∃ m1 m2, m = m1 ++ x :: m2 ∧ m1.length = i - k := by
        refine ⟨m.take (i - k), m.drop (i - k + 1), ?_, by simp; omega⟩
        have h1 : m.drop (i - k) = x :: m.drop (i - k + 1) := by
          rw [List.drop_eq_getElem_cons hp]
          congr 1
          rw [List.getElem?_eq_getElem hp] at hx
          exact Option.some.inj hx
        rw [← h1, List.take_append_drop]
      have idx1 : ∀ y, y ∈ m1 → y.i < i ∧ ops[y.i]? = some y.o := fun y hy => by
        obtain ⟨q, hq⟩ := List.mem_iff_getElem?.1 hy
        have hql : q < m1.length := (List.getElem?_eq_some_iff.1 hq).1
        have hq' : m[q]? = some y := by rw [hsplit, List.getElem?_append_left hql]; exact hq
        obtain ⟨e1, e2⟩ := hmi q y hq'
        exact ⟨by omega, by rw [e1]; exact e2⟩
      have idx2 : ∀ y, y ∈ m2 → i < y.i ∧ ops[y.i]? = some y.o := fun y hy => by
        obtain ⟨q, hq⟩ := List.mem_iff_getElem?.1 hy
        have hq' : m[m1.length + 1 + q]? = some y := by
          rw [hsplit, List.getElem?_append_right (by omega), show m1.length + 1 + q - m1.length = q + 1 by omega]
          simpa using hq
        obtain ⟨e1, e2⟩ := hmi _ y hq'
        exact ⟨by omega, by rw [e1]; exact e2⟩
      have hiL : i < listed.size := by rw [hc.size]; exact hilt
      have hxm : x ∈ m := by rw [hsplit]; exact List.mem_append_right _ (List.mem_cons_self ..)
      have in1 : ∀ y, y ∈ m1 → y ∈ m := fun y hy => by rw [hsplit]; exact List.mem_append_left _ hy
      have in2 : ∀ y, y ∈ m2 → y ∈ m := fun y hy => by rw [hsplit]; exact List.mem_append_right _ (List.mem_cons_of_mem _ hy)
      -- what needs i has not come up, what i needs has
      have notyet : ∀ j, (ndOf nd j).testBit i = true → listed.getD j false = false := fun j hj => by
        cases hv : listed.getD j false with
        | false => rfl
        | true => have h4 := hc.cl _ hv i hj; rw [getD_tf hiu] at h4; cases h4
      have earlier : ∀ y t, y ∈ m1 → y.o.dst = some t → t ∈ namesOf ops oi → listed.getD y.i false = true := fun y t hy ht htn => by
        obtain ⟨h1, h2⟩ := idx1 y hy
        exact ready_need hg hc hi ((hg.ord y.i y.o t i oi h2 ht hoi htn (by omega)).1 h1)
      have later : ∀ y t, y ∈ m2 → y.o.dst = some t → t ∈ namesOf ops oi → listed.getD y.i false = false := fun y t hy ht htn => by
        obtain ⟨h1, h2⟩ := idx2 y hy
        exact notyet _ ((hg.ord y.i y.o t i oi h2 ht hoi htn (by omega)).2 h1)
      have hsame : ∀ t, t ∈ oi.looksAt ops → accV (fun i => listed.getD i false) m A0 t = accV (fun _ => true) m1 A0 t := fun t ht => by
        have htn : t ∈ namesOf ops oi := List.mem_append_left _ ht
        rw [hsplit, accV_append]
        have h1 : accV (fun i => listed.getD i false) (x :: m2) (accV (fun i => listed.getD i false) m1 A0) t = accV (fun i => listed.getD i false) m1 A0 t := by
          refine accV_skip fun y hy hyt => ?_
          rcases List.mem_cons.1 hy with rfl | hy
          · show listed.getD y.i false = false
            rw [ex1]; exact getD_tf hiu
          · exact later y t hy hyt htn
        rw [h1]
        exact accV_congr rfl fun y hy hyt => earlier y t hy hyt htn
      have hget : ∀ j, j ≠ i → (listed.setIfInBounds i true).getD j false = listed.getD j false := fun j hj => getD_set_ne false (Ne.symm hj)
      have hiT : (listed.setIfInBounds i true).getD i false = true := by simp [hiL]
      have hxy : ∀ y, y ∈ m → y.i = i → y = x := fun y hy hyi => by
        obtain ⟨q, hq⟩ := List.mem_iff_getElem?.1 hy
        obtain ⟨e1, e2⟩ := hmi q y hq
        have hqi : q = i - k := by omega
        rw [hqi, hx] at hq
        exact (Option.some.inj hq).symm
      have hacc : ∀ t, putA (accV (fun i => listed.getD i false) m A0) oi.dst x.F t = accV (fun j => (listed.setIfInBounds i true).getD j false) m A0 t := fun t => by
        by_cases hd : oi.dst = some t
        · rw [hd, putA_eq, hsplit, accV_append]
          simp only [accV]
          rw [ex1, hiT]
          simp only [cond_true]
          have hnm : t ∈ namesOf ops oi := by unfold namesOf; rw [hd]; simp
          rw [accV_skip fun y hy hyt => by
            obtain ⟨h1, _⟩ := idx2 y hy
            rw [hget y.i (by omega)]
            exact later y t hy hyt hnm]
          rw [hox, hd, putA_eq]
        · rw [putA_ne hd]
          refine accV_congr rfl fun y hy hyt => (hget y.i fun hyi => ?_).symm
          rw [hxy y hy hyi, hox] at hyt
          exact hd hyt
      have hmem1 : x.kd ≠ 2 → accM (fun j => (listed.setIfInBounds i true).getD j false) m M0 = accM (fun j => listed.getD j false) m M0 := fun h2 => accM_congr fun y hy hy2 => hget y.i fun hyi => by rw [hxy y hy hyi] at hy2; exact h2 hy2
      have hmemR : x.kd ≠ 0 → accM (fun j => listed.getD j false) m M0 = accM (fun _ => true) m1 M0 := fun h0 => by
        rw [hsplit, accM_append]
        rw [accM_skip (l := x :: m2) fun y hy hy2 => by
          rcases List.mem_cons.1 hy with rfl | hy
          · show listed.getD y.i false = false
            rw [ex1]; exact getD_tf hiu
          · obtain ⟨h1, _⟩ := idx2 y hy
            refine notyet _ ?_
            have := hph x y hxm (in2 y hy) (by omega) (.inr ⟨h0, hy2⟩)
            rw [ex1] at this; exact this]
        refine accM_congr fun y hy hy2 => ?_
        obtain ⟨h1, _⟩ := idx1 y hy
        refine ready_need hg hc hi ?_
        have := hph y x (in1 y hy) hxm (by omega) (.inl ⟨hy2, h0⟩)
        rw [ex1] at this; exact this
      have hmemW : x.kd = 2 → accM (fun j => (listed.setIfInBounds i true).getD j false) m M0 = x.M' := fun h2 => by
        rw [hsplit, accM_append]
        simp only [accM]
        rw [ex1, hiT, h2]
        have hb : Nat.beq 2 2 = true := rfl
        simp only [hb, Bool.and_self, cond_true]
        refine accM_skip fun y hy hy2 => ?_
        obtain ⟨h1, _⟩ := idx2 y hy
        rw [hget y.i (by omega)]
        refine notyet _ ?_
        have := hph x y hxm (in2 y hy) (by omega) (.inl ⟨h2, by rw [hy2]; omega⟩)
        rw [ex1] at this; exact this
      have hunl : unl ops.size (listed.setIfInBounds i true) = u := by
        have := unl_set hiL hiu hilt; omega
      have hdN : dstB N oi.dst = true := by
        have := opsAll_spec hN i oi (by simpa using hoi)
        exact this
      have hnext : ∀ φ' v w' M', Fle φ φ' → x.F.ok φ' v → HP c φ' M' w' → M' = accM (fun j => (listed.setIfInBounds i true).getD j false) m M0 → wpAny P .any ops Q u (listed.setIfInBounds i true) (a.put oi.dst v) w' := fun φ' v w' M' hle hv hh hM => by
        have h9 := (st.put (dstB_spec hdN) hle hv hh).congr hacc hM
        refine ih φ' _ w' _ hunl (hc.set hg hi) (fun j hj => ?_) (fun j hj hj' => ?_) h9
        · rw [getD_set_ne true (by omega)]; exact hlo j hj
        · rw [getD_set_ne true (by omega)]; exact hhi j hj hj'
      obtain ⟨hgd, hrule⟩ := hop m1 x m2 hsplit
      rw [hox] at hgd
      have hev : ∀ (L : List Item), Facts φ L → ∀ z, z ∈ oi.op.operands → ∀ B, Ev (accV (fun _ => true) m1 A0) L z B → B.ok φ (a.eval z) := fun L hF z hz B hB => by
        refine ev_of (A := accV (fun _ => true) m1 A0) hF (fun t ht D hD => ?_) hB
        subst ht
        exact st.env t D (by rw [hsame t (mem_looks hz)]; exact hD)
      unfold wpOp
      simp only [hoi]
      rw [if_pos (by simp [Region.wanted, hgd])]
      refine .inl ?_
      rcases hrule with ⟨h0, hr⟩ | ⟨h1, hr⟩ | ⟨h2, hr⟩ | ⟨h1, hr⟩
      · rw [hox] at hr
        have hm0 : HP c φ [] w := st.mem.lessP (SubP.nil _)
        refine hr φ a w _ Q hm0 (hev [] hm0.mem.facts) fun φ' v w' hp hF => ?_
        exact hnext φ' v w' _ (hp.fle hm0.mem.base) hF (by simpa using st.mem.new hp) (hmem1 (by omega)).symm
      · rw [hox] at hr
        have hmi : HP c φ (accM (fun _ => true) m1 M0) w := by rw [← hmemR (by omega)]; exact st.mem
        refine hr φ a w _ Q hmi (hev _ hmi.mem.facts) fun φ' v w' hp hF => ?_
        exact hnext φ' v w' _ (hp.fle hmi.mem.base) hF (by simpa using st.mem.new hp) (hmem1 (by omega)).symm
      · rw [hox] at hr
        have hmi : HP c φ (accM (fun _ => true) m1 M0) w := by rw [← hmemR (by omega)]; exact st.mem
        exact hr φ a w _ Q hmi (hev _ hmi.mem.facts) fun _ φ' v w' hle hF hh => hnext φ' v w' _ hle hF hh (hmemW h2).symm
      · rw [hox] at hr
        have hmi : HP c φ (accM (fun _ => true) m1 M0) w := by rw [← hmemR (by omega)]; exact st.mem
        exact hr φ a w _ Q hmi (hev _ hmi.mem.facts) fun _ φ' v w' hle hF hh => hnext φ' v w' _ hle hF hh ((hmemR (by omega)).symm.trans (hmem1 (by omega)).symm)
    · have hall : ∀ i, i < k + n → listed.getD i true = true := fun i hi => by
        cases hv : listed.getD i true with
        | true => rfl
        | false => exact absurd ⟨i, hi, hv⟩ hdone
      have hall2 : ∀ x, x ∈ m → listed.getD x.i false = true := fun x hx => by
        obtain ⟨i, hi⟩ := List.mem_iff_getElem?.1 hx
        obtain ⟨e1, e2⟩ := hmi i x hi
        have hlt : k + i < ops.size := (Array.getElem?_eq_some_iff.1 e2).1
        have hil : i < m.length := (List.getElem?_eq_some_iff.1 hi).1
        have h1 := hall (k + i) (by omega)
        have h2 : k + i < listed.size := by rw [hc.size]; exact hlt
        rw [e1]
        simp [h2] at h1 ⊢; exact h1
      rw [← hu]
      refine next φ a w listed ⟨hc, fun i hi => ⟨fun h => ?_, fun h => hall i h⟩⟩ (st.congr (fun t => accV_congr rfl fun x hx _ => hall2 x hx) (accM_congr fun x hx _ => hall2 x hx))
      rcases Nat.lt_or_ge i (k + n) with h' | h'
      · exact h'
      · have := hhi i h' hi; rw [h] at this; cases this
/-! ### The walk -/
/-- Pairs of which one writes stand in an order. -/
def phaseB (nd : List Nat) (k : Nat) (ks : List Nat) : Bool := (List.range ks.length).all fun j => (List.range j).all fun i =>
  let a := ks.getD i 0
  let b := ks.getD j 0
  !(Nat.beq a 2 && !Nat.beq b 0 || !Nat.beq a 0 && Nat.beq b 2) || (ndOf nd (k + j)).testBit (k + i)
def PW (P : Program) (ops : Array Oper) (Q : Exit → Act → World → Prop) (c : Ctx) (N : Nat) (nd : List Nat) : List Nat → Nat → List Oper → Env → List Item → Prop
  | [], k, rest, E, L => JD P ops Q c N nd k rest E L
  | kd :: ks, k, o :: rest, E, L => ∃ F M', (⟨k, o, F, kd, M'⟩ : EP).ok P c (look E) L ∧ PW P ops Q c N nd ks (k + 1) rest (putE E o.dst F) (if kd = 2 then M' else L)
  | _ :: _, _, [], _, _ => False
theorem PW.out {Q : Exit → Act → World → Prop} {nd : List Nat} : ∀ {ks : List Nat} {k : Nat} {rest : List Oper} {E : Env} {L : List Item}, PW P ops Q c N nd ks k rest E L →
    ∃ (m : List EP) (rest' : List Oper) (E' : Env), m.length = ks.length ∧ rest.length = ks.length + rest'.length ∧ (∀ i, rest'[i]? = rest[ks.length + i]?) ∧ (∀ i x, m[i]? = some x → x.i = k + i ∧ rest[i]? = some x.o ∧ ks[i]? = some x.kd) ∧
      (∀ m1 x m2, m = m1 ++ x :: m2 → x.ok P c (accV (fun _ => true) m1 (look E)) (accM (fun _ => true) m1 L)) ∧ look E' = accV (fun _ => true) m (look E) ∧ JD P ops Q c N nd (k + ks.length) rest' E' (accM (fun _ => true) m L)
  | [], k, rest, E, L, h => ⟨[], rest, E, rfl, by simp, fun i => by simp, fun i x hx => by simp at hx, fun m1 x m2 hm => by simp at hm, rfl, h⟩
  | kd :: ks, k, [], E, L, h => h.elim
  | kd :: ks, k, o :: rest, E, L, ⟨F, M', h1, h2⟩ => by
    obtain ⟨m, rest', E', e1, e2, e3, e4, e5, e6, e7⟩ := PW.out h2
    have hv : putA (look E) o.dst F = look (putE E o.dst F) := (look_putE E o.dst F).symm
    have hM : (bif true && Nat.beq kd 2 then M' else L) = (if kd = 2 then M' else L) := by
      by_cases h : kd = 2
      · subst h; rfl
      · rw [if_neg h, beq_ff h]; rfl
    refine ⟨⟨k, o, F, kd, M'⟩ :: m, rest', E', by simp [e1], by simp only [List.length_cons]; omega, fun i => ?_, fun i x hx => ?_, fun m1 x m2 hm => ?_, ?_, ?_⟩
    · rw [e3, List.length_cons, show ks.length + 1 + i = ks.length + i + 1 by omega, List.getElem?_cons_succ]
    · cases i with
      | zero => simp at hx; subst hx; exact ⟨rfl, rfl, rfl⟩
      | succ i =>
        obtain ⟨h3, h4, h5⟩ := e4 i x (by simpa using hx)
        exact ⟨by omega, by simpa using h4, by simpa using h5⟩
    · cases m1 with
      | nil =>
        simp only [List.nil_append, List.cons.injEq] at hm
        obtain ⟨rfl, rfl⟩ := hm
        exact h1
      | cons y m1 =>
        simp only [List.cons_append, List.cons.injEq] at hm
        obtain ⟨rfl, hm⟩ := hm
        have := e5 m1 x m2 hm
        rw [← hv, ← hM] at this
        exact this
    · rw [e6, ← hv]; rfl
    · rw [← hM] at e7
      rw [List.length_cons, show k + (ks.length + 1) = k + 1 + ks.length by omega]
      exact e7
theorem JD_phase {Q : Exit → Act → World → Prop} {nd : List Nat} {k : Nat} {rest : List Oper} {E : Env} {L : List Item} (ks : List Nat) (hS : stretchB nd ops.size k ks.length = true) (hB : phaseB nd k ks = true) (h : PW P ops Q c N nd ks k rest E L) : JD P ops Q c N nd k rest E L := by
  intro hg hN hk hrest φ a w listed hp st
  obtain ⟨m, rest', E', e1, e2, e3, e4, e5, e6, e7⟩ := PW.out h
  have hmi : ∀ i x, m[i]? = some x → x.i = k + i ∧ ops[k + i]? = some x.o := fun i x hx => by
    obtain ⟨h1, h2, _⟩ := e4 i x hx
    exact ⟨h1, by rw [← hrest]; exact h2⟩
  have hnone : ∀ x, x ∈ m → listed.getD x.i false = false := fun x hx => by
    obtain ⟨i, hi⟩ := List.mem_iff_getElem?.1 hx
    obtain ⟨h1, h2⟩ := hmi i x hi
    have hlt : k + i < ops.size := (Array.getElem?_eq_some_iff.1 h2).1
    rw [h1]
    cases hv : listed.getD (k + i) false with
    | false => rfl
    | true =>
      have : listed.getD (k + i) true = true := by
        cases hv2 : listed.getD (k + i) true with
        | true => rfl
        | false => rw [getD_tf hv2] at hv; cases hv
      have := (hp.pre _ hlt).1 this
      omega
  refine phases (Q := Q) hg hN hS (by omega) e1 hmi e5 (fun x y hx hy hlt hcf => ?_) ?_ _ φ a w listed rfl hp.cl (fun i hi => ?_) (fun i hi hi' => ?_) (st.congr (fun t => ?_) ?_)
  · obtain ⟨i, hi⟩ := List.mem_iff_getElem?.1 hx
    obtain ⟨j, hj⟩ := List.mem_iff_getElem?.1 hy
    obtain ⟨x1, _, x3⟩ := e4 i x hi
    obtain ⟨y1, _, y3⟩ := e4 j y hj
    have hjl : j < ks.length := by rw [← e1]; exact (List.getElem?_eq_some_iff.1 hj).1
    have h1 := List.all_eq_true.1 (List.all_eq_true.1 hB j (List.mem_range.2 hjl)) i (List.mem_range.2 (by omega))
    have ga : ks.getD i 0 = x.kd := by rw [List.getD_eq_getElem?_getD, x3]; rfl
    have gb : ks.getD j 0 = y.kd := by rw [List.getD_eq_getElem?_getD, y3]; rfl
    dsimp only at h1
    rw [ga, gb] at h1
    rw [x1, y1]
    have hc : (Nat.beq x.kd 2 && !Nat.beq y.kd 0 || !Nat.beq x.kd 0 && Nat.beq y.kd 2) = true := by
      rcases hcf with ⟨h2, h3⟩ | ⟨h2, h3⟩
      · rw [h2, beq_ff h3]; rfl
      · rw [h3, beq_ff h2]; simp
    rw [hc] at h1
    simpa using h1
  · intro φ' a' w' listed' hp' st'
    refine e7 hg hN (by omega) (fun i => ?_) φ' a' w' listed' hp' (st'.congr (fun t => by rw [e6]) rfl)
    rw [e3, hrest]; congr 1; omega
  · cases hil : decide (i < ops.size) with
    | true => exact (hp.pre i (of_decide_eq_true hil)).2 hi
    | false =>
      have : ¬ i < ops.size := of_decide_eq_false hil
      omega
  · cases hv : listed.getD i true with
    | false => rfl
    | true => have := (hp.pre i hi').1 hv; omega
  · rw [accV_congr (q := fun _ => false) (A := look E) (B := look E) rfl (fun x hx _ => hnone x hx), accV_none]
  · rw [accM_congr (q := fun _ => false) (fun x hx _ => hnone x hx), accM_none]
section
variable {Q : Exit → Act → World → Prop} {nd ks : List Nat} {k : Nat} {rest : List Oper} {E : Env} {L : List Item} {t : Tmp} {op : Op} {ty : TypeId} {pos : String} {af : Array Edge}
/-- No memory. -/
theorem PW_0 {F : VP} (hs : OpP P c ⟨some t, op, ty, pos, af, none⟩ (look E) [] F) (h : PW P ops Q c N nd ks (k + 1) rest ((t, F) :: E) L) : PW P ops Q c N nd (0 :: ks) k (⟨some t, op, ty, pos, af, none⟩ :: rest) E L := ⟨F, [], ⟨rfl, .inl ⟨rfl, hs⟩⟩, h⟩
/-- Memory is read. -/
theorem PW_1 {F : VP} (hs : OpP P c ⟨some t, op, ty, pos, af, none⟩ (look E) L F) (h : PW P ops Q c N nd ks (k + 1) rest ((t, F) :: E) L) : PW P ops Q c N nd (1 :: ks) k (⟨some t, op, ty, pos, af, none⟩ :: rest) E L := ⟨F, [], ⟨rfl, .inr (.inl ⟨rfl, hs⟩)⟩, h⟩
/-- Memory is written. -/
theorem PW_2 {F : VP} {L' : List Item} (hs : OpS P c ⟨none, op, ty, pos, af, none⟩ (look E) L (fun _ : Unit => F) (fun _ => L')) (h : PW P ops Q c N nd ks (k + 1) rest E L') : PW P ops Q c N nd (2 :: ks) k (⟨none, op, ty, pos, af, none⟩ :: rest) E L := ⟨F, L', ⟨rfl, .inr (.inr (.inl ⟨rfl, hs⟩))⟩, h⟩
/-- What lies there is written once more. -/
theorem PW_3 {F : VP} (hs : OpS P c ⟨none, op, ty, pos, af, none⟩ (look E) L (fun _ : Unit => F) (fun _ => L)) (h : PW P ops Q c N nd ks (k + 1) rest E L) : PW P ops Q c N nd (1 :: ks) k (⟨none, op, ty, pos, af, none⟩ :: rest) E L := ⟨F, [], ⟨rfl, .inr (.inr (.inr ⟨rfl, hs⟩))⟩, h⟩
theorem PW_end (h : JD P ops Q c N nd k rest E L) : PW P ops Q c N nd [] k rest E L := h
end
end
end Go.Proofs.YtfkmbdpnjcgimaaGreat

/- Contracts: pages sorted in place: comparison, swaps of ranges, rotation, insertion. Own work. -/
namespace Go.Proofs.YtfkmbdpnjcgimaaGreat
open Go.RowKit
set_option linter.unusedVariables false
set_option linter.unusedSimpArgs false
set_option maxRecDepth 100000
def cmpI (a b : Int) : Int := if a < b then -1 else if a > b then 1 else 0
theorem cmpI_neg (a b : Int) : decide (cmpI a b < 0) = decide (a < b) := by
  unfold cmpI
  by_cases h : a < b
  · simp [h]
  · by_cases h2 : a > b <;> simp [h, h2]
-- cmp.isNaN[int]: function 69
theorem isNaN_ok (a : Int) : FnP Tryz.prog 69 [Is (.int .i64 a)] (Is (.bool false)) := by
  refine FnP.enter Tryz.func69 Tryz.ntmps69 rfl rfl ?_
  intro c hX
  refine JC_seq (JC_region (JL_1 rfl (op_assign rfl) (JL_nil ?_)))
  refine JQ_then (JC_seq ?_)
  refine JC_region (JL_1 rfl (op_move rfl) (JL_1 rfl (op_move rfl) (JL_1 rfl (op_neq (Ev.rfl' rfl) (Ev.rfl' rfl)) (JL_1 rfl (op_assign rfl) (JL_nil ?_)))))
  refine JQ_then (JC_ret ?_)
  refine JQ_ret1 Tryz.results69 rfl () (SubL.eq ?_) (List.nil_sublist _)
  simp
-- cmp.Compare[int]: function 53
theorem Compare_ok (a b : Int) : FnP Tryz.prog 53 [Is (.int .i64 a), Is (.int .i64 b)] (Is (.int .i64 (cmpI a b))) := by
  refine FnP.enter Tryz.func53 Tryz.ntmps53 rfl rfl ?_
  intro c hX
  refine JC_seq (JC_region (JL_1 rfl (op_assign rfl) (JL_nil ?_)))
  refine JQ_then (JC_seq ?_)
  refine JC_region (JL_1 rfl (op_move rfl) (JL_1 rfl (op_call Tryz.call69 (isNaN_ok _) ⟨evS, trivial⟩) ?_))
  refine JL_1 rfl (op_assign rfl) (JL_nil ?_)
  refine JQ_then (JC_seq ?_)
  refine JC_region (JL_1 rfl (op_move rfl) (JL_1 rfl (op_call Tryz.call69 (isNaN_ok _) ⟨evS, trivial⟩) ?_))
  refine JL_1 rfl (op_assign rfl) (JL_nil ?_)
  refine JQ_then (JC_seq (JC_seq ?_))
  refine JC_region (JL_1 rfl (op_move rfl) (JL_nil (JQ_then ?_)))
  refine JC_cond (Ev.rfl' rfl) (fun h3 => ?_) (fun h3 => ?_)
  · exact absurd h3 (by simp)
  refine JC_skip (JQ_then (JC_seq (JC_seq ?_)))
  refine JC_region (JL_1 rfl (op_move rfl) (JL_nil (JQ_then ?_)))
  refine JC_cond (Ev.rfl' rfl) (fun h7 => ?_) (fun h7 => ?_)
  · exact absurd h7 (by simp)
  refine JC_skip (JQ_then (JC_seq (JC_seq ?_)))
  refine JC_region (JL_1 rfl (op_move rfl) (JL_1 rfl (op_move rfl) (JL_1 rfl (op_lss (Ev.rfl' rfl) (Ev.rfl' rfl)) (JL_nil (JQ_then ?_)))))
  refine JC_cond (Ev.rfl' rfl) (fun h9 => ?_) (fun h9 => ?_)
  · have h : a < b := of_decide_eq_true h9
    have e : cmpI a b = -1 := by unfold cmpI; rw [if_pos h]
    refine JC_seq (JC_region (JL_1 rfl (op_assign rfl) (JL_nil ?_)))
    refine JQ_then (JC_ret (JQ_then_ret ?_))
    refine JQ_ret1 Tryz.results53 rfl () (SubL.eq ?_) (List.nil_sublist _)
    rw [e]
  have h : ¬ a < b := of_decide_eq_false h9
  refine JC_skip (JQ_then (JC_seq (JC_seq ?_)))
  refine JC_region (JL_1 rfl (op_move rfl) (JL_1 rfl (op_move rfl) (JL_1 rfl (op_gtr (Ev.rfl' rfl) (Ev.rfl' rfl)) (JL_nil (JQ_then ?_)))))
  refine JC_cond (Ev.rfl' rfl) (fun h11 => ?_) (fun h11 => ?_)
  · have h' : a > b := of_decide_eq_true h11
    have e : cmpI a b = 1 := by unfold cmpI; rw [if_neg h, if_pos h']
    refine JC_seq (JC_region (JL_1 rfl (op_assign rfl) (JL_nil ?_)))
    refine JQ_then (JC_ret (JQ_then_ret ?_))
    refine JQ_ret1 Tryz.results53 rfl () (SubL.eq ?_) (List.nil_sublist _)
    rw [e]
  have h' : ¬ a > b := of_decide_eq_false h11
  have e : cmpI a b = 0 := by unfold cmpI; rw [if_neg h, if_neg h']
  refine JC_skip (JQ_then (JC_seq ?_))
  refine JC_region (JL_1 rfl (op_assign rfl) (JL_nil ?_))
  refine JQ_then (JC_ret ?_)
  refine JQ_ret1 Tryz.results53 rfl () (SubL.eq ?_) (List.nil_sublist _)
  rw [e]
-- segment.ascending$1: function 52
theorem asc1_ok (p q : Pg) : FnP Tryz.prog 52 [IsPg p, IsPg q] (Is (.int .i64 (cmpI p.l q.l))) := by
  refine FnP.enter Tryz.func52 Tryz.ntmps52 rfl rfl ?_
  intro c hX
  refine JC_seq (JC_region ?_)
  (refine JL_n rfl (op_box (Ev.rfl' rfl) cellsT) ?_; intro i2)
  (refine JL_n rfl (op_box (Ev.rfl' rfl) cellsT) ?_; intro i3)
  refine JL_1 rfl (op_assign rfl) (JL_nil ?_)
  refine JQ_then (JC_seq ?_)
  refine JC_region (JL_1 rfl (by exact op_fieldPtr (k := 0) (Ev.rfl' rfl) rfl rfl rfl rfl) ?_)
  refine JL_1 rfl (by exact op_loadPtr (Ev.rfl' rfl) memT (by rfl) (by rfl) (by rfl)) ?_
  refine JL_1 rfl (by exact op_fieldPtr (k := 0) (Ev.rfl' rfl) rfl rfl rfl rfl) ?_
  refine JL_1 rfl (by exact op_loadPtr (Ev.rfl' rfl) memT (by rfl) (by rfl) (by rfl)) ?_
  refine JL_1 rfl (op_call Tryz.call53 (Compare_ok _ _) ⟨evS, ⟨evS, trivial⟩⟩) ?_
  refine JL_1 rfl (op_assign rfl) (JL_nil ?_)
  refine JQ_then (JC_ret ?_)
  refine JQ_ret1 Tryz.results52 rfl () (SubL.eq ?_) (List.nil_sublist _)
  rfl
@[reducible] def fAsc : Value := .func (.func 52) #[] #[]
-- slices.swapRangeCmpFunc[bodega/api.Page]: function 122
set_option maxHeartbeats 1000000 in
theorem swapRange_ok (xs : List Pg) (n : Nat) (i : Option Addr × Nat) (a b m : Nat) (hab : a + m ≤ b) (hbn : b + m ≤ xs.length) (hn : xs.length ≤ 1048576) :
    Fn Tryz.prog 122 [Is (slV n i), Is (.int .i64 (a : Int)), Is (.int .i64 (b : Int)), Is (.int .i64 (m : Int)), Is fAsc] [buf (slV n i) 51 tPg xs]
      (fun _ : {ys : List Pg // (∀ k, ys[k]? = swF xs a b m k) ∧ PI a (b + m) xs ys} => IsTup []) (fun ys => [buf (slV n i) 51 tPg ys.1]) := by
  refine Fn.enterN Tryz.func122 Tryz.ntmps122 rfl rfl ?_
  intro c hX
  refine JC_seq (JC_region (JL_1 rfl (op_assign rfl) (JL_nil ?_)))
  refine JQ_then (JC_block ?_)
  refine JC_loopP (fun z : Nat × List Pg => z.1 ≤ m ∧ (∀ k, z.2[k]? = swF xs a b z.1 k) ∧ PI a (b + m) xs z.2) (fun z => [(0, Is (slV n i)), (1, Is (.int .i64 (a : Int))), (2, Is (.int .i64 (b : Int))), (3, Is (.int .i64 (m : Int))), (10, Is (.int .i64 (z.1 : Nat)))]) (fun z => [buf (slV n i) 51 tPg z.2]) (fun z => m - z.1) (0, xs) ⟨Nat.zero_le _, fun k => by unfold swF; rw [if_neg (by omega), if_neg (by omega)], PI.rfl'⟩ esubT lessT ?_
  rintro ⟨k, zs⟩ ⟨hk, hz, hp⟩
  dsimp only at hk hz hp ⊢
  have hzl := hp.len
  refine JC_seq (JC_seq ?_)
  refine JC_region (JL_1 rfl (op_move rfl) (JL_1 rfl (op_move rfl) (JL_1 rfl (op_lss (Ev.rfl' rfl) (Ev.rfl' rfl)) (JL_nil (JQ_then ?_)))))
  refine JC_cond (Ev.rfl' rfl) (fun h1 => ?_) (fun h1 => ?_)
  · have hkm : k < m := by have := of_decide_eq_true h1; omega
    clear h1
    obtain ⟨x, hx⟩ : ∃ x, zs[a + k]? = some x := ⟨zs[a + k], List.getElem?_eq_getElem (by omega)⟩
    obtain ⟨y, hy⟩ : ∃ y, zs[b + k]? = some y := ⟨zs[b + k], List.getElem?_eq_getElem (by omega)⟩
    have hy2 : (zs.set (a + k) y)[b + k]? = some y := by rw [List.getElem?_set_ne (by omega)]; exact hy
    refine JC_skip (JQ_then (JC_seq (JC_block ?_)))
    refine JC_dr rfl (by kernel_rfl) ?_
    refine JD_phase [0, 0, 0, 0, 0, 0, 0, 0, 0, 0, 0, 0, 1, 1, 0, 0, 0, 0, 1, 1, 1, 2, 1, 2] (by kernel_rfl) (by kernel_rfl) ?_
    refine PW_0 (op_move rfl) (PW_0 (op_move rfl) (PW_0 (op_move rfl) (PW_0 (op_add (Ev.rfl' rfl) (Ev.rfl' rfl) wrapT) ?_)))
    refine PW_0 (op_move rfl) (PW_0 (op_move rfl) (PW_0 (op_move rfl) (PW_0 (op_add (Ev.rfl' rfl) (Ev.rfl' rfl) wrapT) ?_)))
    refine PW_0 (op_move rfl) (PW_0 (op_move rfl) (PW_0 (op_move rfl) (PW_0 (op_add (Ev.rfl' rfl) (Ev.rfl' rfl) wrapT) ?_)))
    refine PW_1 (by exact op_indexBuf (k := b + k) (Ev.rfl' rfl) memT (Ev.rfl' rfl) rfl rfl idxT lenT) ?_
    refine PW_1 (by exact op_loadBufs (Ev.rfl' rfl) memT hy rfl rfl rfl) ?_
    refine PW_0 (op_move rfl) (PW_0 (op_move rfl) (PW_0 (op_move rfl) (PW_0 (op_add (Ev.rfl' rfl) (Ev.rfl' rfl) wrapT) ?_)))
    refine PW_1 (by exact op_indexBuf (k := a + k) (Ev.rfl' rfl) memT (Ev.rfl' rfl) rfl rfl idxT lenT) ?_
    refine PW_1 (by exact op_loadBufs (Ev.rfl' rfl) memT hx rfl rfl rfl) ?_
    refine PW_1 (by exact op_indexBuf (k := a + k) (Ev.rfl' rfl) memT (Ev.rfl' rfl) rfl rfl idxT lenT) ?_
    refine PW_2 (by exact op_storeBuf0 (z' := y) (Ev.rfl' rfl) (Ev.rfl' rfl) cellsT replT hx rfl (by rfl) (by rfl)) ?_
    refine PW_1 (by exact op_indexBuf (k := b + k) (Ev.rfl' rfl) memT (Ev.rfl' rfl) rfl rfl idxT lenT) ?_
    refine PW_2 (by exact op_storeBuf0 (z' := x) (Ev.rfl' rfl) (Ev.rfl' rfl) cellsT replT hy2 rfl (by rfl) (by rfl)) ?_
    refine PW_end (JD_end ?_)
    refine JQ_block (JQ_then ?_)
    refine JC_region (JL_1 rfl (op_move rfl) (JL_1 rfl (op_add (Ev.rfl' rfl) (Ev.rfl' rfl) wrapT) ?_))
    refine JL_1 rfl (op_assign rfl) (JL_nil ?_)
    exact JQ_roundP (k + 1, (zs.set (a + k) y).set (b + k) x) ⟨by dsimp only; omega, swF_step (by omega) hz hx hy, hp.tr (sw_PI hx hy (by omega) (by omega))⟩ (by dsimp only; omega) esubT lessT
  have hkm : k = m := by have := of_decide_eq_false h1; omega
  subst hkm
  refine JC_exit (JQ_then_exit (JQ_then_exit (JQ_hit (JQ_end ?_))))
  exact JQ_retP (Bs := []) Tryz.results122 trivial ⟨zs, hz, hp⟩ SubL.rfl' lessT
-- slices.rotateCmpFunc[bodega/api.Page]: function 115
set_option maxHeartbeats 1000000 in
theorem rotate_ok (xs : List Pg) (n : Nat) (i : Option Addr × Nat) (a m b : Nat) (ham : a < m) (hmb : m < b) (hbn : b ≤ xs.length) (hn : xs.length ≤ 1048576) :
    Fn Tryz.prog 115 [Is (slV n i), Is (.int .i64 (a : Int)), Is (.int .i64 (m : Int)), Is (.int .i64 (b : Int)), Is fAsc] [buf (slV n i) 51 tPg xs]
      (fun _ : {ys : List Pg // (∀ k, ys[k]? = rotF (fun k => xs[k]?) a m b k) ∧ PI a b xs ys} => IsTup []) (fun ys => [buf (slV n i) 51 tPg ys.1]) := by
  refine Fn.enterN Tryz.func115 Tryz.ntmps115 rfl rfl ?_
  intro c hX
  refine JC_seq (JC_region (JL_1 rfl (op_move rfl) (JL_1 rfl (op_move rfl) (JL_1 rfl (op_sub (Ev.rfl' rfl) (Ev.rfl' rfl) wrapT) ?_))))
  refine JL_1 rfl (op_assign rfl) (JL_nil ?_)
  refine JQ_then (JC_seq ?_)
  refine JC_region (JL_1 rfl (op_move rfl) (JL_1 rfl (op_move rfl) (JL_1 rfl (op_sub (Ev.rfl' rfl) (Ev.rfl' rfl) wrapT) ?_)))
  refine JL_1 rfl (op_assign rfl) (JL_nil ?_)
  refine JQ_then (JC_seq (JC_block ?_))
  refine JC_loopP (fun z : (Nat × Nat) × List Pg => 0 < z.1.1 ∧ z.1.1 ≤ m - a ∧ 0 < z.1.2 ∧ z.1.2 ≤ b - m ∧ (∀ k, rotF (fun k => z.2[k]?) (m - z.1.1) m (m + z.1.2) k = rotF (fun k => xs[k]?) a m b k) ∧ PI a b xs z.2) (fun z => [(0, Is (slV n i)), (2, Is (.int .i64 (m : Int))), (4, Is fAsc), (10, Is (.int .i64 (z.1.1 : Nat))), (11, Is (.int .i64 (z.1.2 : Nat)))]) (fun z => [buf (slV n i) 51 tPg z.2]) (fun z => z.1.1 + z.1.2) ((m - a, b - m), xs) ⟨by dsimp only; omega, by dsimp only; omega, by dsimp only; omega, by dsimp only; omega, fun k => by dsimp only; rw [show m - (m - a) = a by omega, show m + (b - m) = b by omega], PI.rfl'⟩ ⟨⟨_, rfl, SubL.rfl'⟩, ⟨_, rfl, SubL.rfl'⟩, ⟨_, rfl, SubL.rfl'⟩, ⟨_, rfl, SubL.eq (by dsimp only; congr 2; omega)⟩, ⟨_, rfl, SubL.eq (by dsimp only; congr 2; omega)⟩, trivial⟩ lessT ?_
  rintro ⟨⟨p, q⟩, zs⟩ ⟨hp0, hpm, hq0, hqm, hz, hpi⟩
  dsimp only at hp0 hpm hq0 hqm hz hpi ⊢
  have hzl := hpi.len
  refine JC_seq (JC_seq ?_)
  refine JC_region (JL_1 rfl (op_move rfl) (JL_1 rfl (op_move rfl) (JL_1 rfl (op_neq (Ev.rfl' rfl) (Ev.rfl' rfl)) (JL_nil (JQ_then ?_)))))
  refine JC_cond (Ev.rfl' rfl) (fun h2 => ?_) (fun h2 => ?_)
  · have hne : p ≠ q := fun e => by subst e; simp at h2
    clear h2
    refine JC_skip (JQ_then (JC_block (JC_seq ?_)))
    refine JC_region (JL_1 rfl (op_move rfl) (JL_1 rfl (op_move rfl) (JL_1 rfl (op_gtr (Ev.rfl' rfl) (Ev.rfl' rfl)) (JL_nil (JQ_then ?_)))))
    refine JC_cond (Ev.rfl' rfl) (fun h3 => ?_) (fun h3 => ?_)
    · have hlt : q < p := by have := of_decide_eq_true h3; omega
      clear h3
      refine JC_seq (JC_region (JL_1 rfl (op_move rfl) (JL_1 rfl (op_move rfl) (JL_1 rfl (op_move rfl) (JL_1 rfl (op_sub (Ev.rfl' rfl) (Ev.rfl' rfl) wrapT) ?_)))))
      refine JL_set 27 (Is (.int .i64 ((m - p : Nat) : Int))) rfl (SubL.eq (by congr 2; omega)) ?_
      refine JL_1 rfl (op_move rfl) (JL_1 rfl (op_move rfl) (JL_1 rfl (op_move rfl) ?_))
      (refine JL_s rfl (by ((refine op_callT drop1T Tryz.call122 (swapRange_ok zs n i (m - p) m q ?_ ?_ ?_) ⟨evS, ⟨evS, ⟨evS, ⟨evS, ⟨evS, trivial⟩⟩⟩⟩⟩); all_goals (omega))) ?_; intro i31)
      refine JL_nil (JQ_then ?_)
      obtain ⟨ys, hy1, hy2⟩ := i31
      dsimp only
      have hrl := rot_left (f := fun k => zs[k]?) (g := fun k => ys[k]?) (m := m) (i := p) (j := q) (by omega) hq0 hlt (fun k => by rw [hy1]; rfl)
      refine JC_region (JL_1 rfl (op_move rfl) (JL_1 rfl (op_move rfl) (JL_1 rfl (op_sub (Ev.rfl' rfl) (Ev.rfl' rfl) wrapT) ?_)))
      refine JL_1 rfl (op_assign rfl) (JL_nil (JQ_block ?_))
      exact JQ_roundP ((p - q, q), ys) ⟨by dsimp only; omega, by dsimp only; omega, hq0, hqm, fun k => by dsimp only; rw [hrl]; exact hz k, hpi.tr (hy2.wide (by omega) (by omega))⟩ (by dsimp only; omega) ⟨⟨_, rfl, SubL.rfl'⟩, ⟨_, rfl, SubL.rfl'⟩, ⟨_, rfl, SubL.rfl'⟩, ⟨_, rfl, SubL.eq (by dsimp only; congr 2; omega)⟩, ⟨_, rfl, SubL.rfl'⟩, trivial⟩ lessT
    have hlt : p < q := by have := of_decide_eq_false h3; omega
    clear h3
    refine JC_seq (JC_region (JL_1 rfl (op_move rfl) (JL_1 rfl (op_move rfl) (JL_1 rfl (op_move rfl) (JL_1 rfl (op_sub (Ev.rfl' rfl) (Ev.rfl' rfl) wrapT) ?_)))))
    refine JL_set 38 (Is (.int .i64 ((m - p : Nat) : Int))) rfl (SubL.eq (by congr 2; omega)) ?_
    refine JL_1 rfl (op_move rfl) (JL_1 rfl (op_move rfl) (JL_1 rfl (op_add (Ev.rfl' rfl) (Ev.rfl' rfl) wrapT) ?_))
    refine JL_1 rfl (op_move rfl) (JL_1 rfl (op_sub (Ev.rfl' rfl) (Ev.rfl' rfl) wrapT) ?_)
    refine JL_set 43 (Is (.int .i64 ((m + q - p : Nat) : Int))) rfl (SubL.eq (by congr 2; omega)) ?_
    refine JL_1 rfl (op_move rfl) (JL_1 rfl (op_move rfl) ?_)
    (refine JL_s rfl (by ((refine op_callT drop1T Tryz.call122 (swapRange_ok zs n i (m - p) (m + q - p) p ?_ ?_ ?_) ⟨evS, ⟨evS, ⟨evS, ⟨evS, ⟨evS, trivial⟩⟩⟩⟩⟩); all_goals (omega))) ?_; intro i46)
    refine JL_nil (JQ_then ?_)
    obtain ⟨ys, hy1, hy2⟩ := i46
    dsimp only
    have hrl := rot_right (f := fun k => zs[k]?) (g := fun k => ys[k]?) (m := m) (i := p) (j := q) (by omega) hp0 hlt (fun k => by rw [hy1]; rfl)
    refine JC_region (JL_1 rfl (op_move rfl) (JL_1 rfl (op_move rfl) (JL_1 rfl (op_sub (Ev.rfl' rfl) (Ev.rfl' rfl) wrapT) ?_)))
    refine JL_1 rfl (op_assign rfl) (JL_nil (JQ_block ?_))
    exact JQ_roundP ((p, q - p), ys) ⟨hp0, hpm, by dsimp only; omega, by dsimp only; omega, fun k => by dsimp only; rw [hrl]; exact hz k, hpi.tr (hy2.wide (by omega) (by omega))⟩ (by dsimp only; omega) ⟨⟨_, rfl, SubL.rfl'⟩, ⟨_, rfl, SubL.rfl'⟩, ⟨_, rfl, SubL.rfl'⟩, ⟨_, rfl, SubL.rfl'⟩, ⟨_, rfl, SubL.eq (by dsimp only; congr 2; omega)⟩, trivial⟩ lessT
  have h2' : (p : Int) = q := (by simpa using h2)
  have hpq : p = q := by omega
  subst hpq
  clear h2
  refine JC_exit (JQ_then_exit (JQ_then_exit (JQ_hit (JQ_then ?_))))
  refine JC_region (JL_1 rfl (op_move rfl) (JL_1 rfl (op_move rfl) (JL_1 rfl (op_move rfl) (JL_1 rfl (op_sub (Ev.rfl' rfl) (Ev.rfl' rfl) wrapT) ?_))))
  refine JL_set 53 (Is (.int .i64 ((m - p : Nat) : Int))) rfl (SubL.eq (by congr 2; omega)) ?_
  refine JL_1 rfl (op_move rfl) (JL_1 rfl (op_move rfl) (JL_1 rfl (op_move rfl) ?_))
  (refine JL_s rfl (by ((refine op_callT drop1T Tryz.call122 (swapRange_ok zs n i (m - p) m p ?_ ?_ ?_) ⟨evS, ⟨evS, ⟨evS, ⟨evS, ⟨evS, trivial⟩⟩⟩⟩⟩); all_goals (omega))) ?_; intro i57)
  refine JL_nil (JQ_end ?_)
  obtain ⟨ys, hy1, hy2⟩ := i57
  dsimp only
  have hrl := rot_even (f := fun k => zs[k]?) (g := fun k => ys[k]?) (m := m) (i := p) (by omega) (fun k => by rw [hy1]; rfl)
  exact JQ_retP (Bs := []) Tryz.results115 trivial ⟨ys, fun k => by rw [← hz k]; exact hrl k, hpi.tr (hy2.wide (by omega) (by omega))⟩ SubL.rfl' lessT
-- slices.insertionSortCmpFunc[bodega/api.Page]: function 94
set_option maxHeartbeats 1000000 in
theorem insertion_ok (xs : List Pg) (n : Nat) (i : Option Addr × Nat) (a b : Nat) (hab : a ≤ b) (hbn : b ≤ xs.length) (hn : xs.length ≤ 1048576) :
    Fn Tryz.prog 94 [Is (slV n i), Is (.int .i64 (a : Int)), Is (.int .i64 (b : Int)), Is fAsc] [buf (slV n i) 51 tPg xs]
      (fun _ : {ys : List Pg // Srt Pg.l a b ys ∧ PI a b xs ys} => IsTup []) (fun ys => [buf (slV n i) 51 tPg ys.1]) := by
  refine Fn.enterN Tryz.func94 Tryz.ntmps94 rfl rfl ?_
  intro c hX
  refine JC_seq (JC_region (JL_1 rfl (op_move rfl) (JL_1 rfl (op_add (Ev.rfl' rfl) (Ev.rfl' rfl) wrapT) ?_)))
  refine JL_1 rfl (op_assign rfl) (JL_nil ?_)
  refine JQ_then (JC_block ?_)
  refine JC_loopP (fun z : Nat × List Pg => a + 1 ≤ z.1 ∧ z.1 ≤ max b (a + 1) ∧ Srt Pg.l a z.1 z.2 ∧ PI a b xs z.2) (fun z => [(0, Is (slV n i)), (1, Is (.int .i64 (a : Int))), (2, Is (.int .i64 (b : Int))), (3, Is fAsc), (8, Is (.int .i64 (z.1 : Nat)))]) (fun z => [buf (slV n i) 51 tPg z.2]) (fun z => b - z.1) (a + 1, xs) ⟨Nat.le_refl _, by omega, Srt.one (by omega), PI.rfl'⟩ ⟨⟨_, rfl, SubL.rfl'⟩, ⟨_, rfl, SubL.rfl'⟩, ⟨_, rfl, SubL.rfl'⟩, ⟨_, rfl, SubL.rfl'⟩, ⟨_, rfl, SubL.eq (by congr 2)⟩, trivial⟩ lessT ?_
  rintro ⟨q, zs⟩ ⟨hq0, hqb, hs, hpi⟩
  dsimp only at hq0 hqb hs hpi ⊢
  refine JC_seq (JC_seq ?_)
  refine JC_region (JL_1 rfl (op_move rfl) (JL_1 rfl (op_move rfl) (JL_1 rfl (op_lss (Ev.rfl' rfl) (Ev.rfl' rfl)) (JL_nil (JQ_then ?_)))))
  refine JC_cond (Ev.rfl' rfl) (fun h1 => ?_) (fun h1 => ?_)
  · have hqlt : q < b := by have := of_decide_eq_true h1; omega
    clear h1
    refine JC_skip (JQ_then (JC_seq (JC_block (JC_seq ?_))))
    refine JC_region (JL_1 rfl (op_move rfl) (JL_1 rfl (op_assign rfl) (JL_nil ?_)))
    refine JQ_then (JC_block ?_)
    refine JC_loopP (fun z : Nat × List Pg => a ≤ z.1 ∧ z.1 ≤ q ∧ Flt Pg.l a q z.1 z.2 ∧ PI a b xs z.2) (fun z => [(0, Is (slV n i)), (1, Is (.int .i64 (a : Int))), (2, Is (.int .i64 (b : Int))), (3, Is fAsc), (8, Is (.int .i64 (q : Nat))), (9, Is (.int .i64 (z.1 : Nat)))]) (fun z => [buf (slV n i) 51 tPg z.2]) (fun z => z.1) (q, zs) ⟨by dsimp only; omega, Nat.le_refl _, Flt.start hs, hpi⟩ esubT lessT ?_
    rintro ⟨j, us⟩ ⟨hj0, hjq, hf, hpu⟩
    dsimp only at hj0 hjq hf hpu ⊢
    have hul := hpu.len
    obtain ⟨x, hx⟩ : ∃ x, us[j]? = some x := ⟨us[j], List.getElem?_eq_getElem (by omega)⟩
    obtain ⟨y, hy⟩ : ∃ y, us[j - 1]? = some y := ⟨us[j - 1], List.getElem?_eq_getElem (by omega)⟩
    refine JC_seq (JC_seq ?_)
    refine JC_dr rfl (by kernel_rfl) ?_
    refine JD_stretch 17 (by kernel_rfl) ?_
    refine JW_1 (op_move rfl) (JW_1 (op_move rfl) (JW_1 (op_gtr (Ev.rfl' rfl) (Ev.rfl' rfl)) (JW_1 (op_move rfl) ?_)))
    (refine JW_i0 rfl rfl (fun hg => (by have hg0 := hg; (try simp at hg); exact op_moveE (Ev.rfl' rfl))) ?_)
    (refine JW_i0 rfl rfl (fun hg => (by have hg0 := hg; (try simp at hg); exact op_moveE (Ev.rfl' rfl))) ?_)
    (refine JW_i0 rfl rfl (fun hg => (by have hg0 := hg; (try simp at hg); exact op_moveE (Ev.rfl' rfl))) ?_)
    (refine JW_i0 rfl rfl (fun hg => (by have hg0 := hg; (try simp at hg); exact op_indexBuf (k := j) evG memT evG rfl rfl idxT lenT)) ?_)
    (refine JW_i0 rfl rfl (fun hg => (by have hg0 := hg; (try simp at hg); exact op_loadBufs evG memT hx rfl rfl rfl)) ?_)
    (refine JW_i0 rfl rfl (fun hg => (by have hg0 := hg; (try simp at hg); exact op_moveE (Ev.rfl' rfl))) ?_)
    (refine JW_i0 rfl rfl (fun hg => (by have hg0 := hg; (try simp at hg); exact op_moveE (Ev.rfl' rfl))) ?_)
    (refine JW_i0 rfl rfl (fun hg => (by have hg0 := hg; (try simp at hg); exact op_sub evG evG wrapT)) ?_)
    (refine JW_i0 rfl rfl (fun hg => (by have hg0 := hg; (try simp at hg); exact op_indexBuf (k := j - 1) evG memT evG rfl rfl idxT lenT)) ?_)
    (refine JW_i0 rfl rfl (fun hg => (by have hg0 := hg; (try simp at hg); exact op_loadBufs evG memT hy rfl rfl rfl)) ?_)
    (refine JW_i0 rfl rfl (fun hg => (by have hg0 := hg; (try simp at hg); exact op_callV0 evG Tryz.call52 (asc1_ok _ _) ⟨evS, ⟨evS, trivial⟩⟩)) ?_)
    (refine JW_i0 rfl rfl (fun hg => (by have hg0 := hg; (try simp at hg); exact op_lss evG evG)) ?_)
    refine JW_1 (op_and (Ev.rfl' rfl) rfl (fun h => by exact SubL.iteT (by (rw [h]; rfl)) SubL.rfl')) ?_
    refine ⟨rfl, ?_⟩
    refine JD_end (JQ_then ?_)
    refine JC_cond (Ev.rfl' rfl) (fun h4 => ?_) (fun h4 => ?_)
    · have h5 : (a : Int) < j ∧ x.l < y.l := by
        rw [cmpI_neg, Bool.and_eq_true] at h4
        exact ⟨of_decide_eq_true h4.1, of_decide_eq_true h4.2⟩
      clear h4
      have hj1 : (us.set j y)[j - 1]? = some y := by rw [List.getElem?_set_ne (by omega)]; exact hy
      refine JC_skip (JQ_then (JC_seq (JC_block ?_)))
      refine JC_dr rfl (by kernel_rfl) ?_
      refine JD_phase [0, 0, 0, 0, 0, 0, 0, 0, 1, 1, 0, 0, 1, 1, 1, 2, 1, 2] (by kernel_rfl) (by kernel_rfl) ?_
      refine PW_0 (op_move rfl) (PW_0 (op_move rfl) (PW_0 (op_move rfl) (PW_0 (op_move rfl) (PW_0 (op_sub (Ev.rfl' rfl) (Ev.rfl' rfl) wrapT) ?_))))
      refine PW_0 (op_move rfl) (PW_0 (op_move rfl) (PW_0 (op_sub (Ev.rfl' rfl) (Ev.rfl' rfl) wrapT) ?_))
      refine PW_1 (by exact op_indexBuf (k := j - 1) (Ev.rfl' rfl) memT (Ev.rfl' rfl) rfl rfl idxT lenT) ?_
      refine PW_1 (by exact op_loadBufs (Ev.rfl' rfl) memT hy rfl rfl rfl) ?_
      refine PW_0 (op_move rfl) (PW_0 (op_move rfl) (PW_1 (by exact op_indexBuf (k := j) (Ev.rfl' rfl) memT (Ev.rfl' rfl) rfl rfl idxT lenT) ?_))
      refine PW_1 (by exact op_loadBufs (Ev.rfl' rfl) memT hx rfl rfl rfl) ?_
      refine PW_1 (by exact op_indexBuf (k := j) (Ev.rfl' rfl) memT (Ev.rfl' rfl) rfl rfl idxT lenT) ?_
      refine PW_2 (by exact op_storeBuf0 (z' := y) (Ev.rfl' rfl) (Ev.rfl' rfl) cellsT replT hx rfl (by rfl) (by rfl)) ?_
      refine PW_1 (by exact op_indexBuf (k := j - 1) (Ev.rfl' rfl) memT (Ev.rfl' rfl) rfl rfl idxT lenT) ?_
      refine PW_2 (by exact op_storeBuf0 (z' := x) (Ev.rfl' rfl) (Ev.rfl' rfl) cellsT replT hj1 rfl (by rfl) (by rfl)) ?_
      refine PW_end (JD_end ?_)
      refine JQ_block (JQ_then ?_)
      refine JC_region (JL_1 rfl (op_move rfl) (JL_1 rfl (op_sub (Ev.rfl' rfl) (Ev.rfl' rfl) wrapT) ?_))
      refine JL_1 rfl (op_assign rfl) (JL_nil ?_)
      exact JQ_roundP (j - 1, (us.set j y).set (j - 1) x) ⟨by dsimp only; omega, by dsimp only; omega, hf.step (by omega) hjq hx hy h5.2, hpu.tr (sw_PI hx hy (by omega) (by omega))⟩ (by dsimp only; omega) ⟨⟨_, rfl, SubL.rfl'⟩, ⟨_, rfl, SubL.rfl'⟩, ⟨_, rfl, SubL.rfl'⟩, ⟨_, rfl, SubL.rfl'⟩, ⟨_, rfl, SubL.rfl'⟩, ⟨_, rfl, SubL.eq (by dsimp only; congr 2; omega)⟩, trivial⟩ lessT
    have hdn : Srt Pg.l a (q + 1) us := by
      refine hf.done hjq ?_
      by_cases hja : j = a
      · exact .inl hja
      · refine .inr ⟨by omega, fun x' y' hx' hy' => ?_⟩
        rw [hx] at hx'; cases hx'
        rw [hy] at hy'; cases hy'
        have h5 : decide ((j : Int) > a) = true := by simp; omega
        rw [cmpI_neg, h5, Bool.true_and] at h4
        have := of_decide_eq_false h4
        omega
    clear h4
    refine JC_exit (JQ_then_exit (JQ_then_exit (JQ_hit (JQ_block (JQ_then ?_)))))
    refine JC_region (JL_1 rfl (op_move rfl) (JL_1 rfl (op_add (Ev.rfl' rfl) (Ev.rfl' rfl) wrapT) ?_))
    refine JL_1 rfl (op_assign rfl) (JL_nil ?_)
    exact JQ_roundP (q + 1, us) ⟨by dsimp only; omega, by dsimp only; omega, hdn, hpu⟩ (by dsimp only; omega) esubT lessT
  have hqe : b ≤ q := by have := of_decide_eq_false h1; omega
  refine JC_exit (JQ_then_exit (JQ_then_exit (JQ_hit (JQ_end ?_))))
  exact JQ_retP (Bs := []) Tryz.results94 trivial ⟨zs, hs.sub (Nat.le_refl _) hqe, hpi⟩ SubL.rfl' lessT
end Go.Proofs.YtfkmbdpnjcgimaaGreat
