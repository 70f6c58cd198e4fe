/- Rules: literal slices and made slices that one may write. Own work. -/
import Derived.Test.YthppeaelfcmafaaHh
namespace Go.Proofs.Ythppeaelfcmafaa
open Go.RowKit
set_option linter.unusedVariables false
section
variable {P : Program} {c : Ctx} {A : Nat → Option VP} {L : List Item} {d : Option Tmp} {ty : TypeId} {pos : String} {af : Array Edge} {g : Option (Nat × Bool)}
variable {α : Type} {T : Ty α}
/-- A literal slice, to be written. -/
theorem op_buildSliceO (xs : List α) {t e : TypeId} {n size : Nat} {z : Value} {ps : Array (Nat × Operand)} {qs : List (Nat × List VP)} {Rs : List VP} (hu : P.underlying t = some (.slice e)) (hs : (P.info? e).map (·.size) = some size) (hz : (P.info? e).map (·.zero) = some (some z))
    (hq : PartsE A L ps.toList qs) (hf : fillL (fun i => some (i * size, size)) ((zRow (zcells z) (n * size)).map Is) qs = some Rs)
    (hn : (Nat.ble (n * size) 16777216 && Nat.blt 0 (n * size) && Nat.ble n 1000000 && (zRow (zcells z) (n * size)).all Value.oneCell' && Nat.beq xs.length n && Nat.beq size T.size) = true) (hx : SubLs L Rs (xs.flatMap T.cells)) :
    OpN P c ⟨d, .buildSlice t n ps, ty, pos, af, g⟩ A L (fun b : Nat => slV xs.length (some ⟨b, 0, none⟩, n)) (fun b => buf (slV xs.length (some ⟨b, 0, none⟩, n)) e T xs) := by
  intro φ a w K Q hm he hk
  simp only [Bool.and_eq_true] at hn
  obtain ⟨⟨⟨⟨⟨n1, n2⟩, n3⟩, n4⟩, n5⟩, n6⟩ := hn
  have m1 := Nat.le_of_ble_eq_true n1
  have m2 : 0 < n * size := Nat.le_of_ble_eq_true n2
  have m3 := Nat.le_of_ble_eq_true n3
  have m5 := Nat.eq_of_beq_eq_true n5
  have m6 := Nat.eq_of_beq_eq_true n6
  have hp := hq.at_ (φ := φ) (a := a) fun i x hx => he x (by simp only [Op.operands]; simp; exact ⟨i, by simpa using hx⟩)
  obtain ⟨rs, h1, h2, h3⟩ := fill_ok (alls_is (φ := φ) (zRow (zcells z) (n * size))) (ones_all n4) hp hf
  have h5 := hx.alls hm.mem.facts h2
  have hl : rs.length = n * size := by rw [← h5.len, flatT_len, m5, m6]
  have hrun : (execOp a.eval ⟨d, .buildSlice t n ps, ty, pos, af, g⟩).run P w = .ok (.value (.slice (some ⟨w.heap.size, 0, none⟩) n n)) (w.alloc (.cells rs.toArray e)) := by
    simp only [execOp]
    refine run_val ?_
    have e1 : (ps.map fun x => (x.1, a.eval x.2)).toList = ps.toList.map fun p => (p.1, a.eval p.2) := by simp
    have e2 : ((Array.range (n * size)).map fun x => z.cells[x % z.cells.size]!) = (zRow (zcells z) (n * size)).toArray := by
      unfold zRow zcells
      rw [Array.toArray_toList]
      apply Array.ext'
      simp
    simp only [Instr.buildSlice, Sem.run_bind, run_underlying hu, Result.andThen_ok, run_sizeOf hs]
    rw [if_neg (by omega)]
    have e4 : ¬ n * size = 0 := by omega
    simp only [if_neg e4, Sem.run_bind, run_zero hz, Result.andThen_ok, Sem.run_pure, e1, e2, h1, newRow, run_newObj_alloc]
  unfold Oper.wp
  rw [hrun]
  have hv : Value.slice (some ⟨w.heap.size, 0, none⟩) n n = slV xs.length (some ⟨w.heap.size, 0, none⟩, n) := by rw [m5]; rfl
  rw [hv]
  refine hk w.heap.size φ _ (hp_new (b := 0) hm rfl ⟨rs, by rw [hl, m5, m6], h5, h3, .inr ⟨w.heap.size, n, rs.toArray, rfl, rfl, by omega, by unfold maxLen; omega, by simp [hl, m6], ?_⟩⟩)
  rw [m5, ← m6, ← hl]
  simp
end
section
variable {P : Program} {c : Ctx} {N : Nat} {E : Env} {L : List Item} {Q Q' : Exit → Act → World → Prop}
/-- The ways meet behind a code that is followed by another. -/
theorem JC_cutT {x y : Code} {ι : Type} (I : ι → Prop) (Ef : ι → Env) (Lf : ι → List Item) (h2 : ∀ i, I i → JC P c N y (Ef i) (Lf i) Q) (h1 : JC P c N x E L (Exit.then (Meet c N I Ef Lf) Q')) : JC P c N x E L (Exit.then (y.wp P Q) Q') := by
  refine fun φ a w st => Code.wp_mono ?_ (h1 φ a w st)
  intro e a w h
  cases e with
  | normal => obtain ⟨i, φ, hi, st⟩ := h; exact h2 i hi φ a w st
  | exit id => exact h
  | goto l => exact h
  | ret => exact h
  | panic ch => exact h
  | outgrown => exact h
end
/-- A row's cell is not nil. -/
theorem op_nilBuf {P : Program} {c : Ctx} {A : Nat → Option VP} {L : List Item} {d : Option Tmp} {ty : TypeId} {pos : String} {af : Array Edge} {g : Option (Nat × Bool)} {α : Type} {T : Ty α} {xs : List α} {i : Option Addr × Nat} {n o : Nat} {e : TypeId} {x : Operand}
    (hx : Ev A L x (Is (bpt i o))) (hL : buf (slV n i) e T xs ∈ L) (h0 : 0 < xs.length) : OpP P c ⟨d, .nilCheck x, ty, pos, af, g⟩ A L (Is (bpt i o)) :=
  opp fun φ a w hm he => by
    have h1 : a.eval x = bpt i o := he x (by simp [Op.operands]) _ hx
    obtain ⟨gg, cap, cur, rfl, _⟩ := own_buf hm hL h0
    exact ⟨_, by simp only [execOp, h1, bpt]; rfl, rfl⟩
/-! ### Less memory, in another order -/
theorem Apart.symm {x y : Item} (h : Apart x y) : Apart y x := fun b hb hx => h b hx hb
inductive Drop1 : List Item → Item → List Item → Prop
  | here (it : Item) (L : List Item) : Drop1 (it :: L) it L
  | next (x : Item) {it : Item} {L L' : List Item} (h : Drop1 L it L') : Drop1 (x :: L) it (x :: L')
inductive SubP : List Item → List Item → Prop
  | nil (L : List Item) : SubP [] L
  | cons {it : Item} {L L1 M : List Item} (h : Drop1 L it L1) (h2 : SubP M L1) : SubP (it :: M) L
theorem Drop1.mem {L L' : List Item} {it : Item} (h : Drop1 L it L') : it ∈ L ∧ ∀ x, x ∈ L' → x ∈ L := by
  induction h with
  | here it L => exact ⟨List.mem_cons_self .., fun x hx => List.mem_cons_of_mem _ hx⟩
  | next y h ih => exact ⟨List.mem_cons_of_mem _ ih.1, fun x hx => by
      rcases List.mem_cons.1 hx with rfl | hx
      · exact List.mem_cons_self ..
      · exact List.mem_cons_of_mem _ (ih.2 x hx)⟩
theorem Drop1.sep {L L' : List Item} {it : Item} (h : Drop1 L it L') (hs : L.Pairwise Apart) : L'.Pairwise Apart ∧ ∀ x, x ∈ L' → Apart it x := by
  induction h with
  | here it L => exact ⟨(List.pairwise_cons.1 hs).2, (List.pairwise_cons.1 hs).1⟩
  | next y h ih =>
    obtain ⟨h1, h2⟩ := List.pairwise_cons.1 hs
    obtain ⟨h3, h4⟩ := ih h2
    refine ⟨List.pairwise_cons.2 ⟨fun x hx => h1 x (h.mem.2 x hx), h3⟩, fun x hx => ?_⟩
    rcases List.mem_cons.1 hx with rfl | hx
    · exact (h1 _ h.mem.1).symm
    · exact h4 x hx
theorem SubP.mem {L M : List Item} (h : SubP M L) : ∀ x, x ∈ M → x ∈ L := by
  induction h with
  | nil L => simp
  | cons h h2 ih => intro x hx; rcases List.mem_cons.1 hx with rfl | hx
                    · exact h.mem.1
                    · exact h.mem.2 x (ih x hx)
theorem SubP.sep {L M : List Item} (h : SubP M L) : L.Pairwise Apart → M.Pairwise Apart := by
  induction h with
  | nil L => intro _; exact List.Pairwise.nil
  | cons h h2 ih => intro hs; exact List.pairwise_cons.2 ⟨fun x hx => (h.sep hs).2 x (h2.mem x hx), ih (h.sep hs).1⟩
theorem HP.lessP {c : Ctx} {φ : Fz} {L L' : List Item} {w : World} (h : HP c φ L w) (hs : SubP L' L) : HP c φ L' w :=
  ⟨⟨h.mem.base, fun it hi => h.mem.items it (hs.mem it hi), hs.sep h.mem.sep⟩, h.kept, fun b hb => by
    obtain ⟨x, hx, hxb⟩ := mem_names.1 hb
    exact h.mine b (mem_names.2 ⟨x, hs.mem x hx, hxb⟩), h.old⟩
section
variable {P : Program} {c : Ctx} {N : Nat} {E : Env} {L : List Item} {Q Q' : Exit → Act → World → Prop}
theorem JQ_sub {ex : Exit} {L' : List Item} (hs : SubP L' L) (h : JQ c N E L' Q ex) : JQ c N E L Q ex := fun φ a w st => h φ a w ⟨st.defers, st.size, st.env, st.mem.lessP hs⟩
theorem JC_sub {x : Code} {L' : List Item} (hs : SubP L' L) (h : JC P c N x E L' Q) : JC P c N x E L Q := fun φ a w st => h φ a w ⟨st.defers, st.size, st.env, st.mem.lessP hs⟩
theorem JL_sub {ops : Array Oper} {rest : List Oper} {L' : List Item} (hs : SubP L' L) (h : JL P ops Q c N rest E L') : JL P ops Q c N rest E L := fun φ a w st => h φ a w ⟨st.defers, st.size, st.env, st.mem.lessP hs⟩
theorem JD_sub {ops : Array Oper} {rest : List Oper} {nd : List Nat} {k : Nat} {L' : List Item} (hs : SubP L' L) (h : JD P ops Q c N nd k rest E L') : JD P ops Q c N nd k rest E L := fun e1 e2 e3 e4 φ a w lst hp st => h e1 e2 e3 e4 φ a w lst hp ⟨st.defers, st.size, st.env, st.mem.lessP hs⟩
theorem SubP.refl' : ∀ L : List Item, SubP L L
  | [] => .nil _
  | it :: L => .cons (.here it L) (SubP.refl' L)
theorem JD_front {ops : Array Oper} {rest : List Oper} {nd : List Nat} {k : Nat} {it : Item} {L' : List Item} (hs : Drop1 L it L') (h : JD P ops Q c N nd k rest E (it :: L')) : JD P ops Q c N nd k rest E L := JD_sub (.cons hs (SubP.refl' _)) h
theorem JQ_meetP {ι : Type} {I : ι → Prop} {Ef : ι → Env} {Lf : ι → List Item} {K : Exit → Act → World → Prop} (i : ι) (hi : I i) (hE : ESub L E (Ef i)) (hL : SubP (Lf i) L) : JQ c N E L (Exit.then (Meet c N I Ef Lf) K) .normal := fun φ a w st =>
  ⟨i, φ, hi, ⟨(st.less hE (List.Sublist.refl _)).defers, (st.less hE (List.Sublist.refl _)).size, (st.less hE (List.Sublist.refl _)).env, st.mem.lessP hL⟩⟩
theorem JQ_roundP {ι : Type} {I : ι → Prop} {Ef : ι → Env} {Lf : ι → List Item} {μ : ι → Nat} {n : Nat} {K : Exit → Act → World → Prop} (i : ι) (hi : I i) (hμ : μ i < n) (hE : ESub L E (Ef i)) (hL : SubP (Lf i) L) : JQ c N E L (Exit.then (Round c N I Ef Lf μ n) K) .normal := fun φ a w st =>
  ⟨i, φ, hi, hμ, ⟨(st.less hE (List.Sublist.refl _)).defers, (st.less hE (List.Sublist.refl _)).size, (st.less hE (List.Sublist.refl _)).env, st.mem.lessP hL⟩⟩
theorem St.lessP {E' : Env} {L' : List Item} {φ : Fz} {a : Act} {w : World} (h : St c N (look E) L φ a w) (hE : ESub L E E') (hL : SubP L' L) : St c N (look E') L' φ a w :=
  ⟨h.defers, h.size, (h.less hE (List.Sublist.refl _)).env, h.mem.lessP hL⟩
theorem JC_loopP {x : Code} {ι : Type} (I : ι → Prop) (Ef : ι → Env) (Lf : ι → List Item) (μ : ι → Nat) (i0 : ι) (h0 : I i0) (hE : ESub L E (Ef i0)) (hL : SubP (Lf i0) L)
    (round : ∀ i, I i → JC P c N x (Ef i) (Lf i) (Exit.then (Round c N I Ef Lf μ (μ i)) Q)) : JC P c N (Code.loop x) E L Q := by
  intro φ a w st
  refine wp_loop_ghost (fun n a w => ∃ i φ, I i ∧ μ i = n ∧ St c N (look (Ef i)) (Lf i) φ a w) (μ i0) ⟨i0, φ, h0, rfl, st.lessP hE hL⟩ ?_
  rintro n a w ⟨i, φ, hi, rfl, st⟩
  refine Code.wp_mono ?_ (round i hi φ a w st)
  intro e a w h
  cases e with
  | normal => obtain ⟨i', φ, hi', hlt, st⟩ := h; exact ⟨μ i', hlt, i', φ, hi', rfl, st⟩
  | exit id => exact h
  | goto l => exact h
  | ret => exact h
  | panic ch => exact h
  | outgrown => exact h
theorem JQ_retP {fn : Func} {ι : Type} {R : ι → VP} {L' : ι → List Item} {rs : List ResultVar} {Bs : List VP} (hr : fn.results = rs.toArray) (hE : RetE P E L rs Bs) (i : ι) (hB : SubL L (retVP Bs) (R i)) (hL : SubP (L' i) L) : JQ c N E L (bodyPost P fn (Post c R L')) .ret := by
  intro φ a w st
  obtain ⟨vs, h1, h2⟩ := run_results (A := look E) st hE
  have hlen := h2.len
  have hrun : (results fn a.tmps).run P w = .ok (if h : vs.toArray.size = 1 then vs.toArray[0] else .tuple vs.toArray) w := by
    unfold results
    rw [hr, List.mapM_toArray]
    simp only [Sem.run_bind, Sem.run_map, Sem.run_pure]
    erw [h1]
    rfl
  refine bodyPost_ret hrun st.defers ⟨i, _, φ, rfl, hB _ _ st.mem.mem.facts ?_, st.mem.lessP hL⟩
  match Bs, vs, h2 with
  | [], [], _ => exact ⟨[], rfl, trivial⟩
  | [B], [v], h => exact h.1
  | B :: B' :: Bs, v :: v' :: vs, h => exact ⟨_, rfl, h⟩
end
end Go.Proofs.Ythppeaelfcmafaa
