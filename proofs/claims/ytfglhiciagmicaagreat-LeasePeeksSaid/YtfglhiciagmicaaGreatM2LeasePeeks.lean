/- Texts of this claim, laid together (part 2): walks of functions, what they compute, and plain laws of it. Own work. -/
import Derived.Deep.OwnRows
import Derived.OwnWalk
import Derived.RangeFuncIn
import Derived.RangeFuncLeaves
import Derived.RangeFuncRecord
import Derived.RangeFuncCalls
import Derived.OrdersIn
import Derived.TacticsIn
import Derived.Below
import Derived.Deep.Draws
import Derived.ChangeKeysEq
import Derived.ProofKit
import Derived.Deep.Slices
import Derived.OpenShut
import Derived.Test.YtfglhiciagmicaaGreatM1LeasePeeks
/- Rules: the elements of a row of one's own, read and written. Own work. -/
namespace Go.Proofs.YtfglhiciagmicaaGreat
open Go.RowKit
set_option linter.unusedVariables false
set_option linter.unusedSimpArgs false
section
variable {P : Program} {c : Ctx} {A : Nat → Option VP} {L : List Item} {d : Option Tmp} {ty : TypeId} {pos : String} {af : Array Edge} {g : Option (Nat × Bool)}
variable {α : Type} {T : Ty α} {xs : List α} {i : Option Addr × Nat} {n : Nat} {e : TypeId}
/-- The address of a cell of a row of one's own. -/
def bpt (i : Option Addr × Nat) (o : Nat) : Value := match i.1 with
  | some a => .pointer (some ⟨a.block, o, none⟩)
  | none => undef
theorem own_buf {φ : Fz} {w : World} {k : Nat} (hm : HP c φ L w) (hL : buf (slV n i) e T xs ∈ L) (hk : k < xs.length) : ∃ gg cap cur, i = (some ⟨gg, 0, none⟩, cap) ∧ n = xs.length ∧ w.heap[gg]? = some (.cells cur e (0, 0)) ∧ xs.length ≤ cap ∧ cap ≤ maxLen ∧ cur.size = cap * T.size ∧
    ∃ flat, cur.toList.take (xs.length * T.size) = flat ∧ Alls φ (xs.flatMap T.cells) flat ∧ ones flat ∧ flat.length = xs.length * T.size := by
  obtain ⟨flat, f1, f2, f3⟩ := buf_owns (hm.mem.items _ hL)
  rcases f3.2 with ⟨_, h0⟩ | ⟨gg, cap, cur, e1, _, e2, e3, e4, e5, e6⟩
  · omega
  · obtain ⟨a, cp⟩ := i
    unfold slV at e1
    injection e1 with e7 e8 e9
    dsimp only at e7 e8 e9
    subst e7 e9
    exact ⟨gg, cp, cur, rfl, e8, e2, e3, e4, e5, flat, e6, f1, f2, f3.1⟩
theorem op_indexBuf {x y : Operand} {t : TypeId} {j : Int} {k : Nat} {q : IntKind} (hx : Ev A L x (Is (slV n i))) (hL : buf (slV n i) e T xs ∈ L) (hy : Ev A L y (Is (.int q j))) (hu : P.underlying t = some (.slice e)) (hs : (P.info? e).map (·.size) = some T.size) (hj : j = k) (hk : k < xs.length) :
    OpP P c ⟨d, .indexAddr t x y, ty, pos, af, g⟩ A L (Is (bpt i (k * T.size))) :=
  opp fun φ a w hm he => by
    have h1 : a.eval x = slV n i := he x (by simp [Op.operands]) _ hx
    have h6 : a.eval y = .int q j := he y (by simp [Op.operands]) _ hy
    obtain ⟨gg, cap, cur, rfl, rfl, _⟩ := own_buf hm hL hk
    refine ⟨_, ?_, rfl⟩
    have h7 : (0 : Int) ≤ j ∧ j < (xs.length : Int) := by omega
    have h8 : j.toNat = k := by omega
    simp only [execOp, h1, h6, slV]
    refine run_val ?_
    simp only [Instr.indexAt, asIntOf, Sem.run_bind, Sem.run_pure, Result.andThen_ok, run_underlying hu, h7, and_self, if_true, run_sizeOf hs, h8, addr_add0, bpt, Nat.zero_add]
theorem op_fieldBuf {s : TypeId} {x : Operand} {f0 o m k : Nat} {fs : Array Field} {f : Field} (hx : Ev A L x (Is (bpt i o))) (hL : buf (slV n i) e T xs ∈ L) (h0 : 0 < xs.length) (hu : P.underlying s = some (.struct fs)) (hf : fs[f0]? = some f) (hn : (P.info? f.type).map (·.size) = some (m + 1)) (hk : f.offset = k) :
    OpP P c ⟨d, .fieldAddr s x f0, ty, pos, af, g⟩ A L (Is (bpt i (o + k))) := by
  subst hk
  exact opp fun φ a w hm he => by
    have h1 : a.eval x = bpt i o := he x (by simp [Op.operands]) _ hx
    obtain ⟨gg, cap, cur, rfl, _⟩ := own_buf hm hL h0
    exact ⟨_, by simp only [execOp, h1, bpt, Sem.run_bind, run_field hu hf hn, Result.andThen_ok, Sem.run_pure, addr_add0], rfl⟩
theorem buf_cell {φ : Fz} {w : World} {gg k j : Nat} {cur : Array Value} {flat : List Value} {x : α} {B : VP} (h1 : w.heap[gg]? = some (.cells cur e (0, 0))) (h2 : cur.toList.take (xs.length * T.size) = flat) (h3 : Alls φ (xs.flatMap T.cells) flat) (hk : xs[k]? = some x) (hB : (T.cells x)[j]? = some B) :
    ∃ u, w.cell? ⟨gg, k * T.size + j, none⟩ = some u ∧ B.ok φ u ∧ flat[k * T.size + j]? = some u := by
  obtain ⟨u, h4, h5⟩ := flat_at (flat := flat) h3 hk hB
  refine ⟨u, ?_, h5, h4⟩
  rw [cell_of_row w gg _ cur e _ h1]
  rw [← h2] at h4
  have hl : k * T.size + j < xs.length * T.size := by
    have := (List.getElem?_eq_some_iff.1 h4).1
    rw [List.length_take] at this; omega
  rw [List.getElem?_take_of_lt hl, Array.getElem?_toList] at h4
  exact h4
theorem op_loadBuf {t : TypeId} {x : Operand} {k j : Nat} {z : α} {B : VP} {D : TypeDesc} (hx : Ev A L x (Is (bpt i (k * T.size + j)))) (hL : buf (slV n i) e T xs ∈ L) (hz : xs[k]? = some z) (hu : P.underlying t = some D) (hD : aggB D = false) (hB : (T.cells z)[j]? = some B) : OpP P c ⟨d, .load t x, ty, pos, af, g⟩ A L B :=
  opp fun φ a w hm he => by
    have h1 : a.eval x = bpt i (k * T.size + j) := he x (by simp [Op.operands]) _ hx
    obtain ⟨gg, cap, cur, rfl, _, e2, _, _, _, flat, e6, e7, _⟩ := own_buf hm hL (List.getElem?_eq_some_iff.1 hz).1
    obtain ⟨u, f1, f2, _⟩ := buf_cell e2 e6 e7 hz hB
    exact ⟨u, by simp only [execOp, h1, bpt]; exact run_val (run_loadOne hu hD f1), f2⟩
theorem op_loadBuf0 {t : TypeId} {x : Operand} {k : Nat} {z : α} {B : VP} {D : TypeDesc} (hx : Ev A L x (Is (bpt i (k * T.size)))) (hL : buf (slV n i) e T xs ∈ L) (hz : xs[k]? = some z) (hu : P.underlying t = some D) (hD : aggB D = false) (hB : (T.cells z)[0]? = some B) : OpP P c ⟨d, .load t x, ty, pos, af, g⟩ A L B :=
  op_loadBuf (j := 0) hx hL hz hu hD hB
theorem flatT_len (ys : List α) : (ys.flatMap T.cells).length = ys.length * T.size := by
  induction ys with
  | nil => simp
  | cons y ys ih => rw [List.flatMap_cons, List.length_append, ih, T.len, List.length_cons, Nat.add_mul]; omega
theorem op_loadBufs {t : TypeId} {x : Operand} {k : Nat} {z : α} {D : TypeDesc} (hx : Ev A L x (Is (bpt i (k * T.size)))) (hL : buf (slV n i) e T xs ∈ L) (hz : xs[k]? = some z) (hu : P.underlying t = some D) (hD : aggB D = true) (hn : (P.info? t).map (·.size) = some T.size) : OpP P c ⟨d, .load t x, ty, pos, af, g⟩ A L (IsAgg (T.cells z)) :=
  opp fun φ a w hm he => by
    have h1 : a.eval x = bpt i (k * T.size) := he x (by simp [Op.operands]) _ hx
    obtain ⟨gg, cap, cur, rfl, _, e2, _, _, _, flat, e6, e7, e8, e9⟩ := own_buf hm hL (List.getElem?_eq_some_iff.1 hz).1
    have hkl := (List.getElem?_eq_some_iff.1 hz).1
    have hlen : (T.cells z).length = T.size := T.len z
    have key : Alls φ (T.cells z) ((flat.drop (k * T.size)).take T.size) := by
      have h2 : (xs.flatMap T.cells).drop (k * T.size) = T.cells z ++ ((xs.drop (k + 1)).flatMap T.cells) := by
        have h3 : xs.flatMap T.cells = (xs.take k).flatMap T.cells ++ (xs.drop k).flatMap T.cells := by
          rw [← List.flatMap_append, List.take_append_drop]
        have h4 : ((xs.take k).flatMap T.cells).length = k * T.size := by
          rw [flatT_len, List.length_take]
          congr 1; omega
        rw [h3, ← h4, List.drop_left, List.drop_eq_getElem_cons hkl, List.flatMap_cons]
        have : xs[k] = z := by rw [List.getElem?_eq_getElem hkl] at hz; exact Option.some.inj hz
        rw [this]
      have h5 := (e7.drop (k * T.size)).take T.size
      rw [h2, ← hlen, List.take_left] at h5
      rw [hlen] at h5; exact h5
    have hl2 : ((flat.drop (k * T.size)).take T.size).length = T.size := by rw [← key.len, hlen]
    have h6 := run_loadAgg (w := w) (b := gg) (o := k * T.size) (vs := (flat.drop (k * T.size)).take T.size) hu hD hn hl2 fun j v hj => by
      rw [List.getElem?_take] at hj
      split at hj
      · rename_i hjt
        rw [List.getElem?_drop] at hj
        rw [cell_of_row w gg _ cur e _ e2]
        rw [← e6] at hj
        have hl : k * T.size + j < xs.length * T.size := by
          have := (List.getElem?_eq_some_iff.1 hj).1
          rw [List.length_take] at this; omega
        rw [List.getElem?_take_of_lt hl, Array.getElem?_toList] at hj
        exact hj
      · cases hj
    exact ⟨_, by simp only [execOp, h1, bpt]; exact run_val h6, ⟨_, rfl, key, e8.sub fun u hu => List.mem_of_mem_drop (List.mem_of_mem_take hu)⟩⟩
theorem ovr_append {As Cs Bs : List VP} {o : Nat} (h : o + Bs.length ≤ Cs.length) (D : List VP) : ovr (As ++ Cs ++ D) (As.length + o) Bs = As ++ ovr Cs o Bs ++ D := by
  induction Bs generalizing Cs o with
  | nil => rfl
  | cons B Bs ih =>
    simp only [List.length_cons] at h
    rw [ovr, ovr]
    have : (As ++ Cs ++ D).set (As.length + o) B = As ++ Cs.set o B ++ D := by
      rw [List.append_assoc, List.set_append_right _ _ (by omega), Nat.add_sub_cancel_left, List.set_append_left _ _ (by omega), List.append_assoc]
    rw [this, Nat.add_assoc, ih (by simp; omega)]
theorem flat_split {k : Nat} {z : α} (hz : xs[k]? = some z) : xs.flatMap T.cells = (xs.take k).flatMap T.cells ++ T.cells z ++ (xs.drop (k + 1)).flatMap T.cells := by
  have hkl := (List.getElem?_eq_some_iff.1 hz).1
  have h3 : xs = xs.take k ++ z :: xs.drop (k + 1) := by
    have : xs[k] = z := by rw [List.getElem?_eq_getElem hkl] at hz; exact Option.some.inj hz
    rw [← this, List.getElem_cons_drop, List.take_append_drop]
  conv => lhs; rw [h3]
  rw [List.flatMap_append, List.flatMap_cons, List.append_assoc]
theorem flat_ovr {k o : Nat} {z z' : α} {Bs : List VP} (hz : xs[k]? = some z) (hB : o + Bs.length ≤ T.size) (hc : T.cells z' = ovr (T.cells z) o Bs) : (xs.set k z').flatMap T.cells = ovr (xs.flatMap T.cells) (k * T.size + o) Bs := by
  have hkl := (List.getElem?_eq_some_iff.1 hz).1
  have h1 : (xs.set k z')[k]? = some z' := by simp [hkl]
  rw [flat_split h1, flat_split hz, hc]
  have h2 : ((xs.take k).flatMap T.cells).length = k * T.size := by rw [flatT_len, List.length_take]; congr 1; omega
  rw [← h2, ovr_append (by rw [T.len]; exact hB)]
  congr 2
  · rw [List.take_set, List.set_eq_of_length_le (by simp; omega)]
  · rw [List.drop_set]; simp
theorem op_storeBuf {t : TypeId} {x y : Operand} {k o m : Nat} {z z' : α} {D : VP} {Bs : List VP} {L' : List Item} (hx : Ev A L x (Is (bpt i (k * T.size + o)))) (hy : Ev A L y D) (hD : CellsOf D Bs) (hr : Repl L (buf (slV n i) e T xs) (buf (slV n i) e T (xs.set k z')) L') (hz : xs[k]? = some z)
    (hn : (P.info? t).map (·.size) = some m) (hB : (Nat.beq Bs.length m && Nat.ble (o + m) T.size) = true) (hc : T.cells z' = ovr (T.cells z) o Bs) : OpS P c ⟨d, .store t x y, ty, pos, af, g⟩ A L (fun _ : Unit => Is undef) (fun _ => L') := by
  intro φ a w K Q hm he hk
  have h1 : a.eval x = bpt i (k * T.size + o) := he x (by simp [Op.operands]) _ hx
  obtain ⟨us, h2, h3, h4⟩ := hD φ _ (he y (by simp [Op.operands]) _ hy)
  simp only [Bool.and_eq_true] at hB
  have b1 := Nat.eq_of_beq_eq_true hB.1
  have b2 := Nat.le_of_ble_eq_true hB.2
  have hkl := (List.getElem?_eq_some_iff.1 hz).1
  obtain ⟨gg, cap, cur, rfl, rfl, e2, e3, e4, e5, flat, e6, e7, e8, e9⟩ := own_buf hm hr.mem hkl
  have l1 := h3.len
  have hmul : (k + 1) * T.size ≤ xs.length * T.size := Nat.mul_le_mul_right _ hkl
  have hmul2 : xs.length * T.size ≤ cap * T.size := Nat.mul_le_mul_right _ e3
  rw [Nat.add_mul, Nat.one_mul] at hmul
  have hst := run_storeCells_at (P := P) gg (k * T.size + o) e us 0 cur w e2 (by omega) h4
  simp only [Nat.add_zero] at hst
  have hrun : (execOp a.eval ⟨d, .store t x y, ty, pos, af, g⟩).run P w = .ok .skip (w.setRow gg (cur.toList.take (k * T.size + o) ++ us ++ cur.toList.drop (k * T.size + o + us.length)).toArray) := by
    simp only [execOp, h1, bpt, Instr.storeAt, Instr.sureAddr, Sem.run_bind, Sem.run_pure, Result.andThen_ok, storeVar, run_sizeOf hn, h2]
    rw [if_neg (by simp; omega)]
    rw [hst]; rfl
  unfold Oper.wp
  rw [hrun]
  have hup := hm.upd hr (setRow_kpt (names [buf (slV xs.length (some ⟨gg, 0, none⟩, cap)) e T xs]) w gg (cur.toList.take (k * T.size + o) ++ us ++ cur.toList.drop (k * T.size + o + us.length)).toArray (by simp [names, buf, slV, Value.ownBlock])) ?_ (fun b' hb' => .inr hb')
  · exact hk () φ undef _ Fle.rfl' rfl hup
  refine ⟨⟨flat.take (k * T.size + o) ++ us ++ flat.drop (k * T.size + o + us.length), ?_, ?_, ?_, ?_⟩, fun b' hb' => ?_⟩
  · simp only [List.length_append, List.length_take, List.length_drop, List.length_set]; omega
  · rw [flat_ovr hz (by omega) hc, ovr_get _ _ _ (by rw [flatT_len]; omega), l1]
    exact ((e7.take _).append h3).append (e7.drop _)
  · intro u hu
    simp only [List.mem_append] at hu
    rcases hu with (hu | hu) | hu
    · exact e8 u (List.mem_of_mem_take hu)
    · exact h4 u hu
    · exact e8 u (List.mem_of_mem_drop hu)
  · rw [List.length_set]
    refine .inr ⟨gg, cap, (cur.toList.take (k * T.size + o) ++ us ++ cur.toList.drop (k * T.size + o + us.length)).toArray, rfl, ?_, e3, e4, ?_, ?_⟩
    · simp only [buf, slV, Value.ownBlock, Option.bind_some]
      exact setRow_heap w gg _ _ _ _ e2
    · simp only [List.size_toArray, List.length_append, List.length_take, List.length_drop, Array.length_toList]; omega
    · rw [← e6]
      simp only [List.take_append, List.take_take, List.drop_take, List.length_take, List.length_append, Array.length_toList]
      have q1 : min (xs.length * T.size) (k * T.size + o) = k * T.size + o := by omega
      have q2 : min (k * T.size + o) (xs.length * T.size) = k * T.size + o := by omega
      have q3 : min (k * T.size + o) cur.size = k * T.size + o := by omega
      rw [q1, q2, q3, List.take_of_length_le (l := us) (by omega)]
  · have := (hm.mem.items _ hr.mem).2 b' hb'
    exact ⟨by simp [World.setRow]; exact this.1, this.2⟩
theorem op_storeBuf0 {t : TypeId} {x y : Operand} {k m : Nat} {z z' : α} {D : VP} {Bs : List VP} {L' : List Item} (hx : Ev A L x (Is (bpt i (k * T.size)))) (hy : Ev A L y D) (hD : CellsOf D Bs) (hr : Repl L (buf (slV n i) e T xs) (buf (slV n i) e T (xs.set k z')) L') (hz : xs[k]? = some z)
    (hn : (P.info? t).map (·.size) = some m) (hB : (Nat.beq Bs.length m && Nat.ble m T.size) = true) (hc : T.cells z' = ovr (T.cells z) 0 Bs) : OpS P c ⟨d, .store t x y, ty, pos, af, g⟩ A L (fun _ : Unit => Is undef) (fun _ => L') :=
  op_storeBuf (o := 0) hx hy hD hr hz hn (by simpa using hB) hc
end
end Go.Proofs.YtfglhiciagmicaaGreat

/- Rules: literal slices and made slices that one may write. Own work. -/
namespace Go.Proofs.YtfglhiciagmicaaGreat
open Go.RowKit
set_option linter.unusedVariables false
set_option linter.unusedSimpArgs false
section
variable {P : Program} {c : Ctx} {A : Nat → Option VP} {L : List Item} {d : Option Tmp} {ty : TypeId} {pos : String} {af : Array Edge} {g : Option (Nat × Bool)}
variable {α : Type} {T : Ty α}
/-- A literal slice, to be written. -/
theorem op_buildSliceO (xs : List α) {t e : TypeId} {n size : Nat} {z : Value} {ps : Array (Nat × Operand)} {qs : List (Nat × List VP)} {Rs : List VP} (hu : P.underlying t = some (.slice e)) (hs : (P.info? e).map (·.size) = some size) (hz : (P.info? e).map (·.zero) = some (some z))
    (hq : PartsE A L ps.toList qs) (hf : fillL (fun i => some (i * size, size)) ((zRow (zcells z) (n * size)).map Is) qs = some Rs)
    (hn : (Nat.ble (n * size) 16777216 && Nat.blt 0 (n * size) && Nat.ble n 1000000 && (zRow (zcells z) (n * size)).all Value.oneCell' && Nat.beq xs.length n && Nat.beq size T.size) = true) (hx : SubLs L Rs (xs.flatMap T.cells)) :
    OpN P c ⟨d, .buildSlice t n ps, ty, pos, af, g⟩ A L (fun b : Nat => slV xs.length (some ⟨b, 0, none⟩, n)) (fun b => buf (slV xs.length (some ⟨b, 0, none⟩, n)) e T xs) := by
  intro φ a w K Q hm he hk
  simp only [Bool.and_eq_true] at hn
  obtain ⟨⟨⟨⟨⟨n1, n2⟩, n3⟩, n4⟩, n5⟩, n6⟩ := hn
  have m1 := Nat.le_of_ble_eq_true n1
  have m2 : 0 < n * size := Nat.le_of_ble_eq_true n2
  have m3 := Nat.le_of_ble_eq_true n3
  have m5 := Nat.eq_of_beq_eq_true n5
  have m6 := Nat.eq_of_beq_eq_true n6
  have hp := hq.at_ (φ := φ) (a := a) fun i x hx => he x (by simp only [Op.operands]; simp; exact ⟨i, by simpa using hx⟩)
  obtain ⟨rs, h1, h2, h3⟩ := fill_ok (alls_is (φ := φ) (zRow (zcells z) (n * size))) (ones_all n4) hp hf
  have h5 := hx.alls hm.mem.facts h2
  have hl : rs.length = n * size := by rw [← h5.len, flatT_len, m5, m6]
  have hrun : (execOp a.eval ⟨d, .buildSlice t n ps, ty, pos, af, g⟩).run P w = .ok (.value (.slice (some ⟨w.heap.size, 0, none⟩) n n)) (w.alloc (.cells rs.toArray e)) := by
    simp only [execOp]
    refine run_val ?_
    have e1 : (ps.map fun x => (x.1, a.eval x.2)).toList = ps.toList.map fun p => (p.1, a.eval p.2) := by simp
    have e2 : ((Array.range (n * size)).map fun x => z.cells[x % z.cells.size]!) = (zRow (zcells z) (n * size)).toArray := by
      unfold zRow zcells
      rw [Array.toArray_toList]
      apply Array.ext'
      simp
    simp only [Instr.buildSlice, Sem.run_bind, run_underlying hu, Result.andThen_ok, run_sizeOf hs]
    rw [if_neg (by omega)]
    have e4 : ¬ n * size = 0 := by omega
    simp only [if_neg e4, Sem.run_bind, run_zero hz, Result.andThen_ok, Sem.run_pure, e1, e2, h1, newRow, run_newObj_alloc]
  unfold Oper.wp
  rw [hrun]
  have hv : Value.slice (some ⟨w.heap.size, 0, none⟩) n n = slV xs.length (some ⟨w.heap.size, 0, none⟩, n) := by rw [m5]; rfl
  rw [hv]
  refine hk w.heap.size φ _ (hp_new (b := 0) hm rfl ⟨rs, by rw [hl, m5, m6], h5, h3, .inr ⟨w.heap.size, n, rs.toArray, rfl, rfl, by omega, by unfold maxLen; omega, by simp [hl, m6], ?_⟩⟩)
  rw [m5, ← m6, ← hl]
  simp
end
section
variable {P : Program} {c : Ctx} {N : Nat} {E : Env} {L : List Item} {Q Q' : Exit → Act → World → Prop}
/-- The ways meet behind a code that is followed by another. -/
theorem JC_cutT {x y : Code} {ι : Type} (I : ι → Prop) (Ef : ι → Env) (Lf : ι → List Item) (h2 : ∀ i, I i → JC P c N y (Ef i) (Lf i) Q) (h1 : JC P c N x E L (Exit.then (Meet c N I Ef Lf) Q')) : JC P c N x E L (Exit.then (y.wp P Q) Q') := by
  refine fun φ a w st => Code.wp_mono ?_ (h1 φ a w st)
  intro e a w h
  cases e with
  | normal => obtain ⟨i, φ, hi, st⟩ := h; exact h2 i hi φ a w st
  | exit id => exact h
  | goto l => exact h
  | ret => exact h
  | panic ch => exact h
  | outgrown => exact h
end
/-- A row's cell is not nil. -/
theorem op_nilBuf {P : Program} {c : Ctx} {A : Nat → Option VP} {L : List Item} {d : Option Tmp} {ty : TypeId} {pos : String} {af : Array Edge} {g : Option (Nat × Bool)} {α : Type} {T : Ty α} {xs : List α} {i : Option Addr × Nat} {n o : Nat} {e : TypeId} {x : Operand}
    (hx : Ev A L x (Is (bpt i o))) (hL : buf (slV n i) e T xs ∈ L) (h0 : 0 < xs.length) : OpP P c ⟨d, .nilCheck x, ty, pos, af, g⟩ A L (Is (bpt i o)) :=
  opp fun φ a w hm he => by
    have h1 : a.eval x = bpt i o := he x (by simp [Op.operands]) _ hx
    obtain ⟨gg, cap, cur, rfl, _⟩ := own_buf hm hL h0
    exact ⟨_, by simp only [execOp, h1, bpt]; rfl, rfl⟩
/-! ### Less memory, in another order -/
theorem Apart.symm {x y : Item} (h : Apart x y) : Apart y x := fun b hb hx => h b hx hb
inductive Drop1 : List Item → Item → List Item → Prop
  | here (it : Item) (L : List Item) : Drop1 (it :: L) it L
  | next (x : Item) {it : Item} {L L' : List Item} (h : Drop1 L it L') : Drop1 (x :: L) it (x :: L')
inductive SubP : List Item → List Item → Prop
  | nil (L : List Item) : SubP [] L
  | cons {it : Item} {L L1 M : List Item} (h : Drop1 L it L1) (h2 : SubP M L1) : SubP (it :: M) L
theorem Drop1.mem {L L' : List Item} {it : Item} (h : Drop1 L it L') : it ∈ L ∧ ∀ x, x ∈ L' → x ∈ L := by
  induction h with
  | here it L => exact ⟨List.mem_cons_self .., fun x hx => List.mem_cons_of_mem _ hx⟩
  | next y h ih => exact ⟨List.mem_cons_of_mem _ ih.1, fun x hx => by
      rcases List.mem_cons.1 hx with rfl | hx
      · exact List.mem_cons_self ..
      · exact List.mem_cons_of_mem _ (ih.2 x hx)⟩
theorem Drop1.sep {L L' : List Item} {it : Item} (h : Drop1 L it L') (hs : L.Pairwise Apart) : L'.Pairwise Apart ∧ ∀ x, x ∈ L' → Apart it x := by
  induction h with
  | here it L => exact ⟨(List.pairwise_cons.1 hs).2, (List.pairwise_cons.1 hs).1⟩
  | next y h ih =>
    obtain ⟨h1, h2⟩ := List.pairwise_cons.1 hs
    obtain ⟨h3, h4⟩ := ih h2
    refine ⟨List.pairwise_cons.2 ⟨fun x hx => h1 x (h.mem.2 x hx), h3⟩, fun x hx => ?_⟩
    rcases List.mem_cons.1 hx with rfl | hx
    · exact (h1 _ h.mem.1).symm
    · exact h4 x hx
theorem SubP.mem {L M : List Item} (h : SubP M L) : ∀ x, x ∈ M → x ∈ L := by
  induction h with
  | nil L => simp
  | cons h h2 ih => intro x hx; rcases List.mem_cons.1 hx with rfl | hx
                    · exact h.mem.1
                    · exact h.mem.2 x (ih x hx)
theorem SubP.sep {L M : List Item} (h : SubP M L) : L.Pairwise Apart → M.Pairwise Apart := by
  induction h with
  | nil L => intro _; exact List.Pairwise.nil
  | cons h h2 ih => intro hs; exact List.pairwise_cons.2 ⟨fun x hx => (h.sep hs).2 x (h2.mem x hx), ih (h.sep hs).1⟩
theorem HP.lessP {c : Ctx} {φ : Fz} {L L' : List Item} {w : World} (h : HP c φ L w) (hs : SubP L' L) : HP c φ L' w :=
  ⟨⟨h.mem.base, fun it hi => h.mem.items it (hs.mem it hi), hs.sep h.mem.sep⟩, h.kept, fun b hb => by
    obtain ⟨x, hx, hxb⟩ := mem_names.1 hb
    exact h.mine b (mem_names.2 ⟨x, hs.mem x hx, hxb⟩), h.old⟩
section
variable {P : Program} {c : Ctx} {N : Nat} {E : Env} {L : List Item} {Q Q' : Exit → Act → World → Prop}
theorem JC_sub {x : Code} {L' : List Item} (hs : SubP L' L) (h : JC P c N x E L' Q) : JC P c N x E L Q := fun φ a w st => h φ a w ⟨st.defers, st.size, st.env, st.mem.lessP hs⟩
theorem JL_sub {ops : Array Oper} {rest : List Oper} {L' : List Item} (hs : SubP L' L) (h : JL P ops Q c N rest E L') : JL P ops Q c N rest E L := fun φ a w st => h φ a w ⟨st.defers, st.size, st.env, st.mem.lessP hs⟩
theorem JD_sub {ops : Array Oper} {rest : List Oper} {nd : List Nat} {k : Nat} {L' : List Item} (hs : SubP L' L) (h : JD P ops Q c N nd k rest E L') : JD P ops Q c N nd k rest E L := fun e1 e2 e3 e4 φ a w lst hp st => h e1 e2 e3 e4 φ a w lst hp ⟨st.defers, st.size, st.env, st.mem.lessP hs⟩
theorem SubP.refl' : ∀ L : List Item, SubP L L
  | [] => .nil _
  | it :: L => .cons (.here it L) (SubP.refl' L)
theorem JD_front {ops : Array Oper} {rest : List Oper} {nd : List Nat} {k : Nat} {it : Item} {L' : List Item} (hs : Drop1 L it L') (h : JD P ops Q c N nd k rest E (it :: L')) : JD P ops Q c N nd k rest E L := JD_sub (.cons hs (SubP.refl' _)) h
theorem JQ_meetP {ι : Type} {I : ι → Prop} {Ef : ι → Env} {Lf : ι → List Item} {K : Exit → Act → World → Prop} (i : ι) (hi : I i) (hE : ESub L E (Ef i)) (hL : SubP (Lf i) L) : JQ c N E L (Exit.then (Meet c N I Ef Lf) K) .normal := fun φ a w st =>
  ⟨i, φ, hi, ⟨(st.less hE (List.Sublist.refl _)).defers, (st.less hE (List.Sublist.refl _)).size, (st.less hE (List.Sublist.refl _)).env, st.mem.lessP hL⟩⟩
theorem JQ_roundP {ι : Type} {I : ι → Prop} {Ef : ι → Env} {Lf : ι → List Item} {μ : ι → Nat} {n : Nat} {K : Exit → Act → World → Prop} (i : ι) (hi : I i) (hμ : μ i < n) (hE : ESub L E (Ef i)) (hL : SubP (Lf i) L) : JQ c N E L (Exit.then (Round c N I Ef Lf μ n) K) .normal := fun φ a w st =>
  ⟨i, φ, hi, hμ, ⟨(st.less hE (List.Sublist.refl _)).defers, (st.less hE (List.Sublist.refl _)).size, (st.less hE (List.Sublist.refl _)).env, st.mem.lessP hL⟩⟩
theorem St.lessP {E' : Env} {L' : List Item} {φ : Fz} {a : Act} {w : World} (h : St c N (look E) L φ a w) (hE : ESub L E E') (hL : SubP L' L) : St c N (look E') L' φ a w :=
  ⟨h.defers, h.size, (h.less hE (List.Sublist.refl _)).env, h.mem.lessP hL⟩
theorem JC_loopP {x : Code} {ι : Type} (I : ι → Prop) (Ef : ι → Env) (Lf : ι → List Item) (μ : ι → Nat) (i0 : ι) (h0 : I i0) (hE : ESub L E (Ef i0)) (hL : SubP (Lf i0) L)
    (round : ∀ i, I i → JC P c N x (Ef i) (Lf i) (Exit.then (Round c N I Ef Lf μ (μ i)) Q)) : JC P c N (Code.loop x) E L Q := by
  intro φ a w st
  refine wp_loop_ghost (fun n a w => ∃ i φ, I i ∧ μ i = n ∧ St c N (look (Ef i)) (Lf i) φ a w) (μ i0) ⟨i0, φ, h0, rfl, st.lessP hE hL⟩ ?_
  rintro n a w ⟨i, φ, hi, rfl, st⟩
  refine Code.wp_mono ?_ (round i hi φ a w st)
  intro e a w h
  cases e with
  | normal => obtain ⟨i', φ, hi', hlt, st⟩ := h; exact ⟨μ i', hlt, i', φ, hi', rfl, st⟩
  | exit id => exact h
  | goto l => exact h
  | ret => exact h
  | panic ch => exact h
  | outgrown => exact h
theorem JQ_retP {fn : Func} {ι : Type} {R : ι → VP} {L' : ι → List Item} {rs : List ResultVar} {Bs : List VP} (hr : fn.results = rs.toArray) (hE : RetE P E L rs Bs) (i : ι) (hB : SubL L (retVP Bs) (R i)) (hL : SubP (L' i) L) (hD0 : c.ds = [] := by first | assumption | exact And.right (by assumption)) : JQ c N E L (bodyPost P fn (Post c R L')) .ret := by
  intro φ a w st
  obtain ⟨vs, h1, h2⟩ := run_results (A := look E) st hE
  have hlen := h2.len
  have hrun : (results fn a.tmps).run P w = .ok (if h : vs.toArray.size = 1 then vs.toArray[0] else .tuple vs.toArray) w := by
    unfold results
    rw [hr, List.mapM_toArray]
    simp only [Sem.run_bind, Sem.run_map, Sem.run_pure]
    erw [h1]
    rfl
  refine bodyPost_ret hrun (st.defers.trans hD0) ⟨i, _, φ, rfl, hB _ _ st.mem.mem.facts ?_, st.mem.lessP hL⟩
  match Bs, vs, h2 with
  | [], [], _ => exact ⟨[], rfl, trivial⟩
  | [B], [v], h => exact h.1
  | B :: B' :: Bs, v :: v' :: vs, h => exact ⟨_, rfl, h⟩
end
end Go.Proofs.YtfglhiciagmicaaGreat

/- Rules: words as bit vectors; results of which only some are known to be; values told otherwise. Own work. -/
namespace Go.Proofs.YtfglhiciagmicaaGreat
open Go.RowKit
set_option linter.unusedVariables false
set_option linter.unusedSimpArgs false
section
variable {P : Program} {c : Ctx} {A : Nat → Option VP} {L : List Item} {d : Option Tmp} {ty : TypeId} {pos : String} {af : Array Edge} {g : Option (Nat × Bool)} {x y : Operand} {t u : TypeId}
theorem op_binU {op : BinOp} {k j : IntKind} {n m : Int} {v : Value} (hx : Ev A L x (Is (.int k n))) (hy : Ev A L y (Is (.int j m))) (h : binOp op t (.int k n) (.int j m) = pure v) : OpP P c ⟨d, .binOp op t x y u, ty, pos, af, g⟩ A L (Is v) :=
  op_bin hx hy fun w => by rw [h, Sem.run_pure]
theorem op_shlU {a : BitVec 64} {j : IntKind} {m : Int} {k : Nat} (hx : Ev A L x (Is (.int .u64 (UV a)))) (hy : Ev A L y (Is (.int j m))) (h0 : 0 ≤ m) (hk : m.toNat = k) : OpP P c ⟨d, .binOp .shl t x y u, ty, pos, af, g⟩ A L (Is (.int .u64 (UV (a <<< k)))) :=
  op_shl hx hy h0 (by rw [hk, wrap_u64_mod]; exact shl_UV a k)
theorem op_shrU {a : BitVec 64} {j : IntKind} {m : Int} {k : Nat} (hx : Ev A L x (Is (.int .u64 (UV a)))) (hy : Ev A L y (Is (.int j m))) (h0 : 0 ≤ m) (hk : m.toNat = k) : OpP P c ⟨d, .binOp .shr t x y u, ty, pos, af, g⟩ A L (Is (.int .u64 (UV (a >>> k)))) :=
  op_shr hx hy h0 (by rw [hk]; exact shr_UV a k)
end
/-- A store into memory that the stretch itself has made. -/
theorem op_storeW {P : Program} {c : Ctx} {A : Nat → Option VP} {L : List Item} {ty : TypeId} {pos : String} {af : Array Edge} {g : Option (Nat × Bool)} {t t0 : TypeId} {y : Operand} {s n : Nat} {D : VP} {As Bs : List VP} (hy : Ev A L y D) (hD : CellsOf D Bs)
    (hn : (P.info? t).map (·.size) = some n) (hB : Nat.beq Bs.length n = true) (hl : Nat.ble (0 + n) As.length = true) :
    OpW P c ⟨none, .store t (.tmp s) y, ty, pos, af, g⟩ A L s (fun b : Nat => .pointer (some ⟨b, 0, none⟩)) (fun b => blk b t0 As) (fun b => blk b t0 (ovr As 0 Bs)) := by
  intro φ a w K Q b hm h0 he hk
  have h1 : a.eval (.tmp s) = .pointer (some ⟨b, 0, none⟩) := h0
  obtain ⟨us, h2, h3, h4⟩ := hD φ _ (he y (by simp [Op.operands]) _ hy)
  obtain ⟨vs, h5, h6, h7⟩ := own_blk hm (List.mem_cons_self ..)
  have e1 := Nat.eq_of_beq_eq_true hB
  have e2 := Nat.le_of_ble_eq_true hl
  have e3 := h3.len
  have e4 := h6.len
  have hst := run_storeCells_at (P := P) b 0 t0 us 0 vs.toArray w h5 (by simp; omega) h4
  have hrun : (execOp a.eval ⟨none, .store t (.tmp s) y, ty, pos, af, g⟩).run P w = .ok .skip (w.setRow b (vs.take 0 ++ us ++ vs.drop (0 + us.length)).toArray) := by
    simp only [execOp, h1, Instr.storeAt, Instr.sureAddr, Sem.run_bind, Sem.run_pure, Result.andThen_ok, storeVar, run_sizeOf hn, h2]
    rw [if_neg (by simp; omega)]
    simp only [Nat.add_zero] at hst
    rw [hst]; rfl
  unfold Oper.wp
  rw [hrun]
  have hm1 : HP ⟨w, φ, names [blk b t0 As], []⟩ φ [blk b t0 As] w := HP.start ⟨hm.mem.base, fun it hi => by rw [List.mem_singleton] at hi; subst hi; exact hm.mem.items _ (List.mem_cons_self ..), List.pairwise_singleton _ _⟩
  refine hk φ undef _ (hm1.upd (Repl.head _ _ _) (setRow_kpt _ _ _ _ (by simp [names, blk])) ?_ (fun b' hb' => .inr hb'))
  refine ⟨⟨vs.take 0 ++ us ++ vs.drop (0 + us.length), ?_, ?_, ?_⟩, fun b' hb' => ?_⟩
  · simp only [blk, Option.bind_some]
    exact setRow_heap w b _ _ _ _ h5
  · rw [ovr_get Bs As 0 (by omega), e3]
    exact ((h6.take 0).append h3).append (h6.drop _)
  · intro u hu
    simp only [List.mem_append] at hu
    rcases hu with (hu | hu) | hu
    · exact h7 u (List.mem_of_mem_take hu)
    · exact h4 u hu
    · exact h7 u (List.mem_of_mem_drop hu)
  · have := (hm.mem.items _ (List.mem_cons_self ..)).2 b' hb'
    exact ⟨by simp [World.setRow]; exact this.1, this.2⟩
/-! ### One of many -/
def VEx {ι : Type} (R : ι → VP) : VP := ⟨fun φ v => ∃ i, (R i).ok φ v, fun h ⟨i, k⟩ => ⟨i, (R i).mono h k⟩⟩
theorem Fn.ex {P : Program} {f : FuncId} {As : List VP} {ι : Type} {R : ι → VP} (h : Fn P f As [] R (fun _ => [])) : FnP P f As (VEx R) := by
  intro φ w vs h1 h2
  refine (h φ w vs h1 h2).mono ?_
  rintro e w' ⟨i, v, φ', rfl, h3, h4⟩
  exact ⟨(), v, φ', rfl, ⟨i, h3⟩, h4⟩
section
variable {P : Program} {c : Ctx} {N : Nat} {E : Env} {L : List Item} {Q : Exit → Act → World → Prop} {ops : Array Oper} {rest : List Oper}
theorem St.tell {φ : Fz} {a : Act} {w : World} (st : St c N (look E) L φ a w) {t : Nat} {B : VP} (h : B.ok φ (a.tmps.getD t undef)) : St c N (look ((t, B) :: E)) L φ a w :=
  ⟨st.defers, st.size, fun s D hD => by
    simp only [look] at hD
    cases hk : Nat.beq t s with
    | true => rw [hk] at hD; simp only [cond_true, Option.some.injEq] at hD; subst hD; rw [← Nat.eq_of_beq_eq_true hk]; exact h
    | false => rw [hk] at hD; exact st.env s D hD, st.mem⟩
theorem JC_ex {x : Code} {ι : Type} {R : ι → VP} (t : Nat) (hl : look E t = some (VEx R)) (h : ∀ i, JC P c N x ((t, R i) :: E) L Q) : JC P c N x E L Q := fun φ a w st =>
  let ⟨i, hi⟩ := st.env t _ hl
  h i φ a w (st.tell hi)
theorem JL_ex {ι : Type} {R : ι → VP} (t : Nat) (hl : look E t = some (VEx R)) (h : ∀ i, JL P ops Q c N rest ((t, R i) :: E) L) : JL P ops Q c N rest E L := fun φ a w st =>
  let ⟨i, hi⟩ := st.env t _ hl
  h i φ a w (st.tell hi)
theorem JD_ex {ι : Type} {R : ι → VP} {nd : List Nat} {k : Nat} (t : Nat) (hl : look E t = some (VEx R)) (h : ∀ i, JD P ops Q c N nd k rest ((t, R i) :: E) L) : JD P ops Q c N nd k rest E L := fun e1 e2 e3 e4 φ a w lst hp st =>
  let ⟨i, hi⟩ := st.env t _ hl
  h i e1 e2 e3 e4 φ a w lst hp (st.tell hi)
theorem JC_set {x : Code} {A : VP} (t : Nat) (B : VP) (hl : look E t = some A) (hs : SubL L A B) (h : JC P c N x ((t, B) :: E) L Q) : JC P c N x E L Q := fun φ a w st =>
  h φ a w (st.tell (hs _ _ st.mem.mem.facts (st.env t _ hl)))
theorem JL_set {A : VP} (t : Nat) (B : VP) (hl : look E t = some A) (hs : SubL L A B) (h : JL P ops Q c N rest ((t, B) :: E) L) : JL P ops Q c N rest E L := fun φ a w st =>
  h φ a w (st.tell (hs _ _ st.mem.mem.facts (st.env t _ hl)))
theorem JD_set {A : VP} {nd : List Nat} {k : Nat} (t : Nat) (B : VP) (hl : look E t = some A) (hs : SubL L A B) (h : JD P ops Q c N nd k rest ((t, B) :: E) L) : JD P ops Q c N nd k rest E L := fun e1 e2 e3 e4 φ a w lst hp st =>
  h e1 e2 e3 e4 φ a w lst hp (st.tell (hs _ _ st.mem.mem.facts (st.env t _ hl)))
end
end Go.Proofs.YtfglhiciagmicaaGreat

/- Rules: a slice against nil; an empty literal slice; append onto a literal; max and min. Own work. -/
namespace Go.Proofs.YtfglhiciagmicaaGreat
open Go.RowKit
set_option linter.unusedVariables false
set_option linter.unusedSimpArgs false
section
variable {P : Program} {c : Ctx} {A : Nat → Option VP} {L : List Item} {d : Option Tmp} {ty : TypeId} {pos : String} {af : Array Edge} {g : Option (Nat × Bool)}
variable {α : Type} {T : Ty α} {xs ys : List α} {x y : Operand} {t u e : TypeId}
theorem run_eqSlNil (hu : P.underlying t = some (.slice e)) (a : Option Addr) (n cp : Nat) (w : World) : (binOp .eql t (.slice a n cp) (.slice none 0 0)).run P w = .ok (.bool a.isNone) w := by
  have h : (Op.equalIn (9999 + 1) t (.slice a n cp) (.slice none 0 0)).run P w = .ok a.isNone w := by
    unfold Op.equalIn
    simp only [Sem.run_bind, run_underlying hu, Result.andThen_ok]
    cases a <;> rfl
  have h' : (Op.equal t (.slice a n cp) (.slice none 0 0)).run P w = .ok a.isNone w := h
  simp only [binOp, Sem.run_bind, h', Result.andThen_ok, Sem.run_pure]
theorem guard_slice (o : BinOp) (x y : Operand) (a : Option Addr) (n cp : Nat) (v : Value) (w : World) : (eqGuard o t x y (.slice a n cp) v).run P w = .ok () w := by
  cases o <;> rfl
/-- Whether a slice is nil: if it is, it is empty. -/
theorem op_eqNil (hx : Ev A L x (IsSl T xs)) (hu : P.underlying t = some (.slice e)) : OpP P c ⟨d, .binOp .eql t x (.const (.slice none 0 0)) u, ty, pos, af, g⟩ A L (VEx fun b : {b : Bool // b = true → xs = []} => Is (.bool b.1)) :=
  opp fun φ a w hm he => by
    have h1 : (IsSl T xs).ok φ (a.eval x) := he x (by simp [Op.operands]) _ hx
    obtain ⟨ad, n, cp, h2, h3, h4, h5, h6⟩ := h1
    have h7 : a.eval (.const (.slice none 0 0)) = .slice none 0 0 := rfl
    refine ⟨.bool ad.isNone, ?_, ⟨⟨ad.isNone, fun hb => ?_⟩, rfl⟩⟩
    · simp only [execOp, h2, h7, Sem.run_bind, guard_slice, Result.andThen_ok, run_eqSlNil hu, Sem.run_pure]
    · cases ad with
      | none =>
        rcases h6 with h6 | ⟨b, o, h6, _⟩
        · exact List.eq_nil_of_length_eq_zero (by omega)
        · cases h6
      | some _ => cases hb
theorem op_min {k : IntKind} {n m : Int} (hx : Ev A L x (Is (.int k n))) (hy : Ev A L y (Is (.int k m))) {ts : Array TypeId} : OpP P c ⟨d, .call { callee := .builtin .min, args := #[x, y], argTypes := ts }, ty, pos, af, g⟩ A L (Is (.int k (if m < n then m else n))) :=
  opp fun φ a w hm he => by
    have h1 : a.eval x = .int k n := he x (by simp [Op.operands, Call.operands]) _ hx
    have h2 : a.eval y = .int k m := he y (by simp [Op.operands, Call.operands]) _ hy
    refine ⟨_, ?_, rfl⟩
    have h4 : (#[x, y].map a.eval) = #[.int k n, .int k m] := by simp [h1, h2]
    simp only [execOp, resolve, h4, Sem.run_bind, Sem.run_pure, Result.andThen_ok, invoke, builtin]
    rfl
/-- An empty literal slice, not nil: to be appended onto. -/
theorem op_buildSlice0 {size : Nat} {et : TypeId} (T : Ty α) (hu : P.underlying t = some (.slice et)) (hs : (P.info? et).map (·.size) = some size) :
    OpN P c ⟨d, .buildSlice t 0 #[], ty, pos, af, g⟩ A L (fun b : Nat => slV 0 (some ⟨b, 0, none⟩, 0)) (fun b => buf (slV 0 (some ⟨b, 0, none⟩, 0)) et T ([] : List α)) := by
  intro φ a w K Q hm he hk
  have hrun : (execOp a.eval ⟨d, .buildSlice t 0 #[], ty, pos, af, g⟩).run P w = .ok (.value (.slice (some ⟨w.heap.size, 0, none⟩) 0 0)) (w.alloc (.cells #[] et)) := by
    simp only [execOp]
    refine run_val ?_
    simp only [Instr.buildSlice, Sem.run_bind, run_underlying hu, Result.andThen_ok, run_sizeOf hs]
    rw [if_neg (by omega)]
    simp [Instr.fill, newRow]
    congr 2
    apply Array.ext'
    simp
  unfold Oper.wp
  rw [hrun]
  exact hk w.heap.size φ _ (hp_new (b := 0) hm rfl ⟨[], by simp, trivial, ones_nil, .inr ⟨w.heap.size, 0, #[], rfl, rfl, Nat.le_refl _, Nat.zero_le _, by simp, by simp⟩⟩)
end
end Go.Proofs.YtfglhiciagmicaaGreat

/- Rules: made slices. Own work. -/
namespace Go.Proofs.YtfglhiciagmicaaGreat
open Go.RowKit
set_option linter.unusedVariables false
set_option linter.unusedSimpArgs false
section
variable {P : Program} {c : Ctx} {A : Nat → Option VP} {L : List Item} {d : Option Tmp} {ty : TypeId} {pos : String} {af : Array Edge} {g : Option (Nat × Bool)}
variable {α : Type} {x y : Operand} {t e : TypeId}
theorem made_list (z : Value) (n : Nat) : (madeCells #[z] n).toList = List.replicate n z := by
  apply List.ext_getElem
  · simp [madeCells]
  · intro i h1 h2
    simp [madeCells, Nat.mod_one]
theorem alls_rep {φ : Fz} {B : VP} {v : Value} (h : B.ok φ v) : ∀ n, Alls φ (List.replicate n B) (List.replicate n v)
  | 0 => trivial
  | n + 1 => ⟨h, alls_rep h n⟩
/-- make of a row of one-cell elements: zeros, to be written. -/
theorem op_makeRow (T : Ty α) (z0 : α) {z : Value} {bytes n : Nat} {k k' : IntKind} (hx : Ev A L x (Is (.int k (n : Int)))) (hy : Ev A L y (Is (.int k' (n : Int)))) (hT : T.cells z0 = [Is z]) (hu : P.underlying t = some (.slice e))
    (hinfo : (P.info? e).map (fun i => (i.zero, i.size, i.bytes)) = some (some z, 1, bytes)) (hz1 : z.cells = #[z]) (ho : z.oneCell' = true) (hb : Nat.ble bytes 100000 = true) (hn : n ≤ 1048576) :
    OpN P c ⟨d, .makeSlice t x y, ty, pos, af, g⟩ A L (fun b : Nat => slV n (some ⟨b, 0, none⟩, n)) (fun b => buf (slV n (some ⟨b, 0, none⟩, n)) e T (List.replicate n z0)) := by
  intro φ a w K Q hm he hk
  have h1 : a.eval x = .int k (n : Int) := he x (by simp [Op.operands]) _ hx
  have h2 : a.eval y = .int k' (n : Int) := he y (by simp [Op.operands]) _ hy
  have hb' := Nat.le_of_ble_eq_true hb
  have hby := Nat.mul_le_mul hb' hn
  have hs : T.size = 1 := by have := T.len z0; rw [hT] at this; exact this.symm
  have hrun : (execOp a.eval ⟨d, .makeSlice t x y, ty, pos, af, g⟩).run P w = .ok (.value (.slice (some ⟨w.heap.size, 0, none⟩) n n)) (w.alloc (.cells (madeCells #[z] n) e)) := by
    simp only [execOp, h1, h2]
    refine run_val ?_
    exact run_make_row' t e z bytes hu hinfo hz1 k k' n (by omega) (by omega) w
  unfold Oper.wp
  rw [hrun]
  have hflat : ∀ m : Nat, ((List.replicate m z0).flatMap T.cells) = List.replicate m (Is z) := fun m => by
    induction m with
    | zero => rfl
    | succ m ih => rw [List.replicate_succ, List.flatMap_cons, ih, hT]; rfl
  refine hk w.heap.size φ _ (hp_new (b := 0) hm rfl ⟨List.replicate n z, by simp [hs], by rw [hflat]; exact alls_rep rfl n, fun u hu => by rw [(List.mem_replicate.1 hu).2]; exact ho, .inr ⟨w.heap.size, n, madeCells #[z] n, by simp [slV], rfl, by simp, by unfold maxLen; omega, by simp [madeCells, hs], ?_⟩⟩)
  rw [made_list]
  simp [hs]
end
end Go.Proofs.YtfglhiciagmicaaGreat

/- Rules: arrays by address. Own work. -/
namespace Go.Proofs.YtfglhiciagmicaaGreat
open Go.RowKit
set_option linter.unusedVariables false
set_option linter.unusedSimpArgs false
section
variable {P : Program} {c : Ctx} {A : Nat → Option VP} {L : List Item} {d : Option Tmp} {ty : TypeId} {pos : String} {af : Array Edge} {g : Option (Nat × Bool)}
variable {x y : Operand} {t e : TypeId}
/-- The address of an array's element. -/
theorem op_indexArr {b o len sz k : Nat} {j : Int} {q : IntKind} (hx : Ev A L x (Is (.pointer (some ⟨b, o, none⟩)))) (hy : Ev A L y (Is (.int q j))) (hu : P.underlying t = some (.array len e)) (hs : (P.info? e).map (·.size) = some sz) (hj : j = k) (hk : k < len) :
    OpP P c ⟨d, .indexAddr t x y, ty, pos, af, g⟩ A L (Is (.pointer (some ⟨b, o + k * sz, none⟩))) :=
  opp fun φ a w hm he => by
    have h1 : a.eval x = .pointer (some ⟨b, o, none⟩) := he x (by simp [Op.operands]) _ hx
    have h6 : a.eval y = .int q j := he y (by simp [Op.operands]) _ hy
    refine ⟨_, ?_, rfl⟩
    have h7 : (0 : Int) ≤ j ∧ j < (len : Int) := by omega
    have h8 : j.toNat = k := by omega
    simp only [execOp, h1, h6]
    refine run_val ?_
    simp only [Instr.indexAt, asIntOf, Sem.run_bind, Sem.run_pure, Result.andThen_ok, run_underlying hu, Instr.sureAddr, h7, and_self, if_true, run_sizeOf hs, h8, addr_add0]
/-- A block of one's own stays as it is from here on. -/
theorem HP.freezeB {φ : Fz} {w : World} {b : Nat} {t : TypeId} {As : List VP} {L' : List Item} {p0 : Prop} (hX : c.X = [] ∧ p0) (hm : HP c φ L w) (hr : Repl L (blk b t As) (fact (.pointer (some ⟨b, 0, none⟩)) (IsRef As)) L') : ∃ φ', Fle φ φ' ∧ HP c φ' L' w := by
  obtain ⟨vs, e1, f1, f2⟩ := own_blk hm hr.mem
  have hit := hm.mem.items _ hr.mem
  have hown : ∀ i, φ b i = none := fun i => (hit.2 b rfl).2 i
  let φ' : Fz := fun b' i => if b' = b then vs[i]? else φ b' i
  have hsame : ∀ i, φ' b i = vs[i]? := fun i => if_pos rfl
  have hoth : ∀ b' i, b' ≠ b → φ' b' i = φ b' i := fun b' i h => if_neg h
  have hle : Fle φ φ' := fun b' i u hu => by
    rw [hoth b' i (fun e => by subst e; rw [hown i] at hu; cases hu)]; exact hu
  have hg0 : c.w.heap.size ≤ b := (hm.mine b (mem_names.2 ⟨_, hr.mem, rfl⟩)).resolve_right (by rw [hX.1]; simp)
  refine ⟨φ', hle, ⟨⟨fun b' i u hu => ?_, fun x hx => ?_, hr.sep hm.mem.sep fun x hx _ _ => ⟨fun b _ (hb : none = some b) => (nomatch hb), fun b (hb : none = some b) => (nomatch hb)⟩⟩, hm.kept, fun b' hb => ?_, fun b' i hb => ?_⟩⟩
  · by_cases hbg : b' = b
    · subst hbg
      rw [hsame] at hu
      rw [cell_blk e1]; exact hu
    · rw [hoth b' i hbg] at hu
      exact hm.mem.base b' i u hu
  · rcases hr.mem' hx with rfl | ⟨hx', hap⟩
    · refine ⟨⟨b, 0, rfl, fun j B hB => ?_⟩, fun b (hb : none = some b) => (nomatch hb)⟩
      obtain ⟨u, h1, h2⟩ := f1.get hB
      exact ⟨u, by rw [hsame, Nat.zero_add]; exact h1, B.mono hle h2, f2 u (List.mem_of_getElem? h1)⟩
    · obtain ⟨h1, h2⟩ := hm.mem.items x hx'
      refine ⟨x.mono hle h1, fun b' hb => ⟨(h2 b' hb).1, fun i => ?_⟩⟩
      rw [hoth b' i (fun e => (hap hm.mem.sep).1 b' hb (by rw [e]; rfl))]
      exact (h2 b' hb).2 i
  · obtain ⟨x, hx, hxb⟩ := mem_names.1 hb
    rcases hr.mem' hx with rfl | ⟨hx', _⟩
    · cases hxb
    · exact hm.mine b' (mem_names.2 ⟨x, hx', hxb⟩)
  · rw [hoth b' i (by omega)]
    exact hm.old b' i hb
variable {Q : Exit → Act → World → Prop} {N : Nat} {ops : Array Oper} {rest : List Oper} {E : Env} {b : Nat} {As : List VP} {L' : List Item}
theorem JC_freezeB {x : Code} {p0 : Prop} (hX : c.X = [] ∧ p0) (hr : Repl L (blk b t As) (fact (.pointer (some ⟨b, 0, none⟩)) (IsRef As)) L') (h : JC P c N x E L' Q) : JC P c N x E L Q := fun φ a w st =>
  let ⟨φ', h1, h2⟩ := HP.freezeB hX st.mem hr
  h φ' a w ⟨st.defers, st.size, fun t B hB => B.mono h1 (st.env t B hB), h2⟩
end
end Go.Proofs.YtfglhiciagmicaaGreat

/- Rules: functions that hold values. Own work. -/
namespace Go.Proofs.YtfglhiciagmicaaGreat
open Go.RowKit
set_option linter.unusedVariables false
set_option linter.unusedSimpArgs false
/-- A function and what it holds. -/
def IsFn (f : FuncId) (Cs : List VP) : VP := ⟨fun φ v => ∃ cs : List Value, v = .func (.func f) #[] cs.toArray ∧ Alls φ Cs cs, fun h ⟨cs, e, k⟩ => ⟨cs, e, k.mono h⟩⟩
section
variable {P : Program} {c : Ctx} {A : Nat → Option VP} {L : List Item} {d : Option Tmp} {ty : TypeId} {pos : String} {af : Array Edge} {g : Option (Nat × Bool)}
theorem op_callFn {f : FuncId} {x : Operand} {xs : List Operand} {ts : Array TypeId} {As Cs : List VP} {R : VP} (hx : Ev A L x (IsFn f Cs)) (hc : ∀ (args : Array Value) (w : World), (callFunc f args).run P w = .ok (.enter f args) w)
    (hF : FnP P f (As ++ Cs) R) (ha : ArgsE A L xs As) : OpP P c ⟨d, .call { callee := .value x, args := xs.toArray, argTypes := ts }, ty, pos, af, g⟩ A L R := by
  intro φ a w K Q hm he hk
  obtain ⟨cap, h1, h2⟩ : (IsFn f Cs).ok φ (a.eval x) := he x (by simp [Op.operands, Call.operands]) _ hx
  have hv := ha.alls (φ := φ) (a := a) fun x hx => he x (by simp [Op.operands, Call.operands, hx])
  have hrun : (execOp a.eval ⟨d, .call { callee := .value x, args := xs.toArray, argTypes := ts }, ty, pos, af, g⟩).run P w = .ok (.enter f (xs.map a.eval ++ cap).toArray) w := by
    simp only [execOp, resolve, h1, Deferred.ofValue, Sem.run_bind, Sem.run_pure, Result.andThen_ok, invoke, hc]
    simp
  unfold Oper.wp
  rw [hrun]
  refine (hF φ w _ (hv.append h2) ⟨hm.mem.base, by simp, List.Pairwise.nil⟩).mono ?_
  rintro e w' ⟨i, v, φ', rfl, h1, h2⟩
  exact hk φ' v w' (by simpa [names] using h2) h1
theorem op_makeFunc {f : FuncId} {xs : List Operand} {Cs : List VP} (ha : ArgsE A L xs Cs) : OpP P c ⟨d, .makeFunc (.func f) #[] xs.toArray, ty, pos, af, g⟩ A L (IsFn f Cs) :=
  opp fun φ a w hm he => by
    have hv := ha.alls (φ := φ) (a := a) fun x hx => he x (by simp [Op.operands, hx])
    exact ⟨_, by simp only [execOp]; exact run_val (by simp [Instr.makeFunc]; rfl), ⟨xs.map a.eval, by simp, hv⟩⟩
end
end Go.Proofs.YtfglhiciagmicaaGreat

/- Rules: a slice of an array that stays. Own work. -/
namespace Go.Proofs.YtfglhiciagmicaaGreat
open Go.RowKit
set_option linter.unusedVariables false
set_option linter.unusedSimpArgs false
section
variable {P : Program} {c : Ctx} {A : Nat → Option VP} {L : List Item} {d : Option Tmp} {ty : TypeId} {pos : String} {af : Array Edge} {g : Option (Nat × Bool)}
variable {α : Type} {T : Ty α}
/-- An element of an array that stays. -/
theorem op_indexRef (xs : List α) {x y : Operand} {t e : TypeId} {n j : Nat} {i : Int} {k : IntKind} {z : α} {As : List VP} (hx : Ev A L x (IsRef As)) (hy : Ev A L y (Is (.int k i))) (hu : P.underlying t = some (.array n e)) (hs : (P.info? e).map (·.size) = some T.size) (hn : xs.length = n) (h : SubLs L (As.take (n * T.size)) (xs.flatMap T.cells)) (hi : i = j) (hz : xs[j]? = some z) :
    OpP P c ⟨d, .indexAddr t x y, ty, pos, af, g⟩ A L (IsRef (T.cells z)) := by
  intro φ a w K Q hh he hk
  obtain ⟨b, o, h1, h2⟩ : (IsRef As).ok φ (a.eval x) := he x (by simp [Op.operands]) _ hx
  have h6 : a.eval y = .int k i := he y (by simp [Op.operands]) _ hy
  have hlt : j < xs.length := (List.getElem?_eq_some_iff.1 hz).1
  have hrun : (execOp a.eval ⟨d, .indexAddr t x y, ty, pos, af, g⟩).run P w = .ok (.value (.pointer (some ⟨b, o + j * T.size, none⟩))) w := by
    have h7 : (0 : Int) ≤ i ∧ i < (n : Int) := by omega
    have h8 : i.toNat = j := by omega
    simp only [execOp, h1, h6]
    refine run_val ?_
    simp only [Instr.indexAt, asIntOf, Sem.run_bind, Sem.run_pure, Result.andThen_ok, run_underlying hu, h7, and_self, if_true, run_sizeOf hs, h8, addr_add0, Instr.sureAddr]
  unfold Oper.wp
  rw [hrun]
  refine hk φ _ w hh.idle ⟨b, _, rfl, fun q B hB => ?_⟩
  obtain ⟨D, h3, h4⟩ := subLs_get (Bs := []) h (flat_idx hz hB)
  have h5 : As[j * T.size + q]? = some D := by
    rw [List.getElem?_take] at h3
    split at h3
    · exact h3
    · cases h3
  obtain ⟨u, h6, h7, h8⟩ := h2 _ D h5
  exact ⟨u, by rw [Nat.add_assoc]; exact h6, h4 φ u hh.mem.facts h7, h8⟩
end
end Go.Proofs.YtfglhiciagmicaaGreat

/- Rules: memory of one's own lent to a call that only reads it. Own work. -/
namespace Go.Proofs.YtfglhiciagmicaaGreat
open Go.RowKit
set_option linter.unusedVariables false
set_option linter.unusedSimpArgs false
/-- What is one's own, told as if it stayed. -/
inductive LendL : List Item → List Item → Prop
  | nil : LendL [] []
  | keep (it : Item) {L L' : List Item} (h : LendL L L') : LendL (it :: L) (it :: L')
  | buf {α : Type} {v : Value} {e : TypeId} {T : Ty α} {xs : List α} {L L' : List Item} (h : LendL L L') : LendL (buf v e T xs :: L) (fact v (IsSl T xs) :: L')
  | blk {b : Nat} {t : TypeId} {As : List VP} {L L' : List Item} (h : LendL L L') : LendL (blk b t As :: L) (fact (.pointer (some ⟨b, 0, none⟩)) (IsRef As) :: L')
theorem Repl.mid (it it' : Item) (L : List Item) : ∀ M : List Item, Repl (M ++ it :: L) it it' (M ++ it' :: L)
  | [] => .head it it' L
  | x :: M => .tail x (Repl.mid it it' L M)
theorem Mem.ctx {φ : Fz} {L : List Item} {w : World} (hm : Mem φ L w) : HP ⟨{ w with heap := #[] }, φ, [], []⟩ φ L w :=
  ⟨hm, ⟨rfl, rfl, rfl, Nat.zero_le _, fun k hk => absurd hk (by simp)⟩, fun b _ => .inl (Nat.zero_le _), fun _ _ _ => rfl⟩
theorem LendL.mem {L L' : List Item} (h : LendL L L') : ∀ (M : List Item) (φ : Fz) (w : World), Mem φ (M ++ L) w → ∃ φ', Fle φ φ' ∧ Mem φ' (M ++ L') w := by
  induction h with
  | nil => exact fun M φ w hm => ⟨φ, Fle.rfl', hm⟩
  | keep it h ih =>
    intro M φ w hm
    obtain ⟨φ', h1, h2⟩ := ih (M ++ [it]) φ w (by simpa using hm)
    exact ⟨φ', h1, by simpa using h2⟩
  | @buf α v e T xs L L' h ih =>
    intro M φ w hm
    obtain ⟨φ1, h1, h2⟩ := HP.freeze (c := ⟨{ w with heap := #[] }, φ, [], []⟩) ⟨rfl, trivial⟩ hm.ctx (Repl.mid (Go.Proofs.YtfglhiciagmicaaGreat.buf v e T xs) (fact v (IsSl T xs)) L M)
    obtain ⟨φ', h3, h4⟩ := ih (M ++ [fact v (IsSl T xs)]) φ1 w (by simpa using h2.mem)
    exact ⟨φ', h1.tr h3, by simpa using h4⟩
  | @blk b t As L L' h ih =>
    intro M φ w hm
    obtain ⟨φ1, h1, h2⟩ := HP.freezeB (c := ⟨{ w with heap := #[] }, φ, [], []⟩) ⟨rfl, trivial⟩ hm.ctx (Repl.mid (Go.Proofs.YtfglhiciagmicaaGreat.blk b t As) (fact (.pointer (some ⟨b, 0, none⟩)) (IsRef As)) L M)
    obtain ⟨φ', h3, h4⟩ := ih (M ++ [fact (.pointer (some ⟨b, 0, none⟩)) (IsRef As)]) φ1 w (by simpa using h2.mem)
    exact ⟨φ', h1.tr h3, by simpa using h4⟩
/-- A value that names no memory. -/
def PureV (R : VP) : Prop := ∀ φ φ' v, R.ok φ v → R.ok φ' v
theorem pure_is {u : Value} : PureV (Is u) := fun _ _ _ h => h
def PureVs : List VP → Prop
  | [] => True
  | A :: As => PureV A ∧ PureVs As
theorem PureVs.alls {φ φ' : Fz} : ∀ {As : List VP} {vs : List Value}, PureVs As → Alls φ As vs → Alls φ' As vs
  | [], [], _, _ => trivial
  | A :: As, v :: vs, ⟨h1, h2⟩, ⟨h3, h4⟩ => ⟨h1 _ _ _ h3, h2.alls h4⟩
theorem pure_tup {As : List VP} (h : PureVs As) : PureV (IsTup As) := fun _ _ _ ⟨vs, e, k⟩ => ⟨vs, e, h.alls k⟩
theorem pure_agg {As : List VP} (h : PureVs As) : PureV (IsAgg As) := fun _ _ _ ⟨vs, e, k, o⟩ => ⟨vs, e, h.alls k, o⟩
theorem pure_ex {ι : Type} {R : ι → VP} (h : ∀ i, PureV (R i)) : PureV (VEx R) := fun _ _ _ ⟨i, k⟩ => ⟨i, h i _ _ _ k⟩
section
variable {P : Program} {c : Ctx} {A : Nat → Option VP} {L : List Item} {d : Option Tmp} {ty : TypeId} {pos : String} {af : Array Edge} {g : Option (Nat × Bool)}
theorem op_callB {f : FuncId} {xs : List Operand} {ts : Array TypeId} {As : List VP} {R : VP} {L' : List Item} (hL : LendL L L') (hc : ∀ (args : Array Value) (w : World), (callFunc f args).run P w = .ok (.enter f args) w)
    (hF : FnP P f As R) (ha : ArgsE A L' xs As) (hR : PureV R) : OpP P c ⟨d, .call { callee := .value (.func f), args := xs.toArray, argTypes := ts }, ty, pos, af, g⟩ A L R := by
  intro φ a w K Q hm he hk
  obtain ⟨φ1, hle, hm1⟩ := hL.mem [] φ w hm.mem
  rw [List.nil_append] at hm1
  have hv := ha.alls (φ := φ1) (a := a) fun x hx B hB => by
    obtain ⟨D, h1, h2⟩ := hB
    exact h2 φ1 _ hm1.facts (D.mono hle (he x (by simp [Op.operands, Call.operands, hx]) D (.rfl' h1)))
  unfold Oper.wp
  rw [run_enter hc]
  refine (hF φ1 w _ hv ⟨hm1.base, by simp, List.Pairwise.nil⟩).mono ?_
  rintro e w' ⟨i, v, φ', rfl, h1, h2⟩
  have hk2 : Kpt [] w w' := by have := h2.kept; simpa [names] using this
  refine hk (fun b i => if b < w.heap.size then φ b i else φ' b i) v w' ⟨⟨fun b i u hu => ?_, by simp, List.Pairwise.nil⟩, hk2, by simp [names], fun b i hb => if_pos hb⟩ (hR _ _ _ h1)
  split at hu
  · rename_i hb
    exact h2.mem.base b i u (by rw [h2.old b i hb]; exact hle _ _ _ hu)
  · exact h2.mem.base b i u hu
end
end Go.Proofs.YtfglhiciagmicaaGreat

/- Rules: slices of arrays of one's own; copy into them; three-index slices. Own work. -/
namespace Go.Proofs.YtfglhiciagmicaaGreat
open Go.RowKit
set_option linter.unusedVariables false
set_option linter.unusedSimpArgs false
section
variable {P : Program} {c : Ctx} {A : Nat → Option VP} {L : List Item} {d : Option Tmp} {ty : TypeId} {pos : String} {af : Array Edge} {g : Option (Nat × Bool)}
variable {α : Type} {T : Ty α}
theorem flat_take {xs : List α} : ∀ m : Nat, (xs.take m).flatMap T.cells = (xs.flatMap T.cells).take (m * T.size) := by
  induction xs with
  | nil => intro m; simp
  | cons x xs ih =>
    intro m
    cases m with
    | zero => simp
    | succ m =>
      rw [List.take_succ_cons, List.flatMap_cons, List.flatMap_cons, ih, List.take_append, T.len x, List.take_of_length_le (l := T.cells x) (by rw [T.len]; rw [Nat.add_mul]; omega)]
      congr 2; rw [Nat.add_mul]; omega
end
end Go.Proofs.YtfglhiciagmicaaGreat

/- The rules again, what memory holds told as one list. Own work. -/
namespace Go.Proofs.YtfglhiciagmicaaGreat
open Go.RowKit
set_option linter.unusedVariables false
set_option linter.unusedSimpArgs false
section
variable {P : Program} {c : Ctx} {A : Nat → Option VP} {L : List Item} {d : Option Tmp} {ty : TypeId} {pos : String} {af : Array Edge} {g : Option (Nat × Bool)}
theorem op_allocN {t : TypeId} {z : Value} {Rs : List VP} (hz : (P.info? t).map (·.zero) = some (some z)) (hR : (zcells z).map Is = Rs) (h1 : ((zcells z).all Value.oneCell') = true) : OpN P c ⟨d, .alloc t, ty, pos, af, g⟩ A L (fun b : Nat => .pointer (some ⟨b, 0, none⟩)) (fun b => blk b t Rs) := by
  subst hR; exact op_alloc hz h1
theorem op_storeN {t t0 : TypeId} {x y : Operand} {b o n : Nat} {D : VP} {As Bs Rs : List VP} {L' : List Item} (hx : Ev A L x (Is (.pointer (some ⟨b, o, none⟩)))) (hy : Ev A L y D) (hD : CellsOf D Bs) (hr : Repl L (blk b t0 As) (blk b t0 Rs) L')
    (hR : ovr As o Bs = Rs) (hn : (P.info? t).map (·.size) = some n) (hB : Nat.beq Bs.length n = true) (hl : Nat.ble (o + n) As.length = true) : OpS P c ⟨d, .store t x y, ty, pos, af, g⟩ A L (fun _ : Unit => Is undef) (fun _ => L') := by
  subst hR; exact op_store hx hy hD hr hn hB hl
theorem op_loadPtrsN {t t0 : TypeId} {x : Operand} {b o n : Nat} {As Rs : List VP} {D : TypeDesc} (hx : Ev A L x (Is (.pointer (some ⟨b, o, none⟩)))) (hL : blk b t0 As ∈ L) (hu : P.underlying t = some D) (hD : aggB D = true) (hn : (P.info? t).map (·.size) = some n) (hl : Nat.ble (o + n) As.length = true) (hR : (As.drop o).take n = Rs) :
    OpP P c ⟨d, .load t x, ty, pos, af, g⟩ A L (IsAgg Rs) := by
  subst hR; exact op_loadPtrs hx hL hu hD hn hl
theorem op_loadRefsN {t : TypeId} {x : Operand} {As Rs : List VP} {n : Nat} {D : TypeDesc} (hx : Ev A L x (IsRef As)) (hu : P.underlying t = some D) (hD : aggB D = true) (hn : (P.info? t).map (·.size) = some n) (hl : Nat.ble n As.length = true) (hR : As.take n = Rs) : OpP P c ⟨d, .load t x, ty, pos, af, g⟩ A L (IsAgg Rs) := by
  subst hR; exact op_loadRefs hx hu hD hn hl
theorem op_fieldRefN {s : TypeId} {x : Operand} {i n k : Nat} {As Rs : List VP} {fs : Array Field} {f : Field} (hx : Ev A L x (IsRef As)) (hu : P.underlying s = some (.struct fs)) (hf : fs[i]? = some f) (hn : (P.info? f.type).map (·.size) = some (n + 1)) (hk : f.offset = k) (hR : As.drop k = Rs) :
    OpP P c ⟨d, .fieldAddr s x i, ty, pos, af, g⟩ A L (IsRef Rs) := by
  subst hR; exact op_fieldRef hx hu hf hn hk
theorem op_buildN {t : TypeId} {ps : Array (Nat × Operand)} {fs : List Field} {zs : List Value} {pl : List (Nat × Nat)} {qs : List (Nat × List VP)} {Rs0 Rs : List VP} (hu : P.underlying t = some (.struct fs.toArray)) (hz : (P.info? t).map (·.zero) = some (some (.agg zs.toArray))) (h1 : (zs.all Value.oneCell') = true)
    (hpl : sizesOf P fs = some pl) (hq : PartsE A L ps.toList qs) (hf : fillL (fun i => pl[i]?) (zs.map Is) qs = some Rs0) (hR : Rs0 = Rs) : OpP P c ⟨d, .build t ps, ty, pos, af, g⟩ A L (IsAgg Rs) := by
  subst hR; exact op_build hu hz h1 hpl hq hf
theorem op_storeWN {t t0 : TypeId} {y : Operand} {s n : Nat} {D : VP} {As Bs Rs : List VP} (hy : Ev A L y D) (hD : CellsOf D Bs) (hn : (P.info? t).map (·.size) = some n) (hB : Nat.beq Bs.length n = true) (hl : Nat.ble (0 + n) As.length = true) (hR : ovr As 0 Bs = Rs) :
    OpW P c ⟨none, .store t (.tmp s) y, ty, pos, af, g⟩ A L s (fun b : Nat => .pointer (some ⟨b, 0, none⟩)) (fun b => blk b t0 As) (fun b => blk b t0 Rs) := by
  subst hR; exact op_storeW hy hD hn hB hl
/-- A store at a place that is no literal. -/
theorem op_storeA {t t0 : TypeId} {x y : Operand} {b o n : Nat} {D : VP} {As Bs Rs : List VP} {L' : List Item} (hx : Ev A L x (Is (.pointer (some ⟨b, o, none⟩)))) (hy : Ev A L y D) (hD : CellsOf D Bs) (hr : Repl L (blk b t0 As) (blk b t0 Rs) L')
    (hR : ovr As o Bs = Rs) (hn : (P.info? t).map (·.size) = some n) (hB : Nat.beq Bs.length n = true) (hl : o + n ≤ As.length) : OpS P c ⟨d, .store t x y, ty, pos, af, g⟩ A L (fun _ : Unit => Is undef) (fun _ => L') := by
  subst hR; exact op_store hx hy hD hr hn hB (Nat.ble_eq_true_of_le hl)
theorem Repl.same {L L' : List Item} {it it' : Item} (h : Repl L it it' L') : it = it' → L' = L := by
  induction h with
  | head a b L => rintro rfl; rfl
  | tail x h ih => intro e; rw [ih e]
/-- What lies in memory, told otherwise. -/
theorem JC_blkEq {Q : Exit → Act → World → Prop} {N : Nat} {E : Env} {b : Nat} {t : TypeId} {As As' : List VP} {L' : List Item} {x : Code} (hr : Repl L (blk b t As) (blk b t As') L') (h : As = As') (k : JC P c N x E L' Q) : JC P c N x E L Q := by
  subst h
  rw [hr.same rfl] at k; exact k
end
end Go.Proofs.YtfglhiciagmicaaGreat

/- Rules: append onto what the stretch itself has made. Own work. -/
namespace Go.Proofs.YtfglhiciagmicaaGreat
open Go.RowKit
set_option linter.unusedVariables false
set_option linter.unusedSimpArgs false
section
variable {P : Program} {c : Ctx} {A : Nat → Option VP} {L : List Item} {d : Option Tmp} {ty : TypeId} {pos : String} {af : Array Edge} {g : Option (Nat × Bool)}
variable {α : Type} {T : Ty α} {xs ys : List α}
theorem op_appT {s : Tmp} {y : Operand} {t e : TypeId} (hy : Ev A L y (IsSl T ys)) (hT : AppT P t e T.size) (hlen : xs.length + ys.length ≤ 1048576) :
    OpT P c ⟨d, .call { callee := .builtin .append, args := #[.tmp s, y], argTypes := #[t, t] }, ty, pos, af, g⟩ A L s (slV xs.length) (fun i => buf (slV xs.length i) e T xs) (slV (xs ++ ys).length) (fun i => buf (slV (xs ++ ys).length i) e T (xs ++ ys)) := by
  intro φ a w K Q i0 hm h1 he hk
  have h2 : (IsSl T ys).ok φ (a.eval y) := he y (by simp [Op.operands, Call.operands]) _ hy
  have hit := hm.mem.items _ (List.mem_cons_self ..)
  obtain ⟨flat, f1, f2, f3⟩ := buf_owns hit
  obtain ⟨i, w', flat', r1, r2, r3, r4, r5, r6⟩ := run_app2 (x := .tmp s) (d := d) (ty := ty) (pos := pos) (af := af) (g := g) hT hm.mem.base h1 f3 f1 f2 h2 hlen
  unfold Oper.wp
  rw [r1]
  have hm1 : HP ⟨w, φ, names [buf (slV xs.length i0) e T xs], []⟩ φ [buf (slV xs.length i0) e T xs] w := HP.start ⟨hm.mem.base, fun it hi => by rw [List.mem_singleton] at hi; subst hi; exact hit, List.pairwise_singleton _ _⟩
  exact hk i φ w' (hp_app (L := []) hm1 r2 r3 r4 r5 r6)
/-- Append onto memory from outside the stretch. -/
theorem op_appG {x y : Operand} {i0 : Option Addr × Nat} {t e : TypeId} (hx : Ev A L x (Is (slV xs.length i0))) (hy : Ev A L y (IsSl T ys)) (hT : AppT P t e T.size) (hlen : xs.length + ys.length ≤ 1048576) :
    ∀ φ a w K Q, HP c φ (buf (slV xs.length i0) e T xs :: L) w → (∀ z, z ∈ (Op.call { callee := .builtin .append, args := #[x, y], argTypes := #[t, t] }).operands → ∀ B, Ev A L z B → B.ok φ (a.eval z)) →
      (∀ i' φ' w', HP ⟨w, φ, names [buf (slV xs.length i0) e T xs], []⟩ φ' [buf (slV (xs ++ ys).length i') e T (xs ++ ys)] w' → K (a.put d (slV (xs ++ ys).length i')) w') → (⟨d, .call { callee := .builtin .append, args := #[x, y], argTypes := #[t, t] }, ty, pos, af, g⟩ : Oper).wp P a w K Q := by
  intro φ a w K Q hm he hk
  have h1 : a.eval x = slV xs.length i0 := he x (by simp [Op.operands, Call.operands]) _ hx
  have h2 : (IsSl T ys).ok φ (a.eval y) := he y (by simp [Op.operands, Call.operands]) _ hy
  have hit := hm.mem.items _ (List.mem_cons_self ..)
  obtain ⟨flat, f1, f2, f3⟩ := buf_owns hit
  obtain ⟨i, w', flat', r1, r2, r3, r4, r5, r6⟩ := run_app2 (x := x) (d := d) (ty := ty) (pos := pos) (af := af) (g := g) hT hm.mem.base h1 f3 f1 f2 h2 hlen
  unfold Oper.wp
  rw [r1]
  have hm1 : HP ⟨w, φ, names [buf (slV xs.length i0) e T xs], []⟩ φ [buf (slV xs.length i0) e T xs] w := HP.start ⟨hm.mem.base, fun it hi => by rw [List.mem_singleton] at hi; subst hi; exact hit, List.pairwise_singleton _ _⟩
  exact hk i φ w' (hp_app (L := []) hm1 r2 r3 r4 r5 r6)
end
end Go.Proofs.YtfglhiciagmicaaGreat

/- Inside a fence: regions, tests, blocks, loops; functions that hold a range over a function. Own work. -/
namespace Go.Proofs.YtfglhiciagmicaaGreat
open Go.RowKit
set_option linter.unusedVariables false
set_option linter.unusedSimpArgs false
section
variable {P : Program} {r : Option Nat} {n : Nat}
/-! ### Judgements -/
variable {c : Ctx} {N : Nat} {E : Env} {L : List Item} {Q : Exit → Act → World → Prop}
/-! ### Loops over functions: their record, the block behind it -/
end
end Go.Proofs.YtfglhiciagmicaaGreat

/- A loop over a function: its rounds, the call of yield, the statement. Own work. -/
namespace Go.Proofs.YtfglhiciagmicaaGreat
open Go.RowKit
set_option linter.unusedVariables false
set_option linter.unusedSimpArgs false
section
variable {P : Program} {r : Option Nat} {n : Nat} {c : Ctx} {N : Nat} {E : Env} {L : List Item} {Q : Exit → Act → World → Prop} {ops : Array Oper} {rest : List Oper}
variable {d : Option Tmp} {ty : TypeId} {pos : String} {af : Array Edge} {t : Tmp} {op : Op}
/-! ### A round -/
end
end Go.Proofs.YtfglhiciagmicaaGreat

/- Contracts whose results lie in new memory; lending to them. Own work. -/
namespace Go.Proofs.YtfglhiciagmicaaGreat
open Go.RowKit
set_option linter.unusedVariables false
set_option linter.unusedSimpArgs false
/-- What is known to stay from block B on. -/
def fresh (B : Nat) (φ : Fz) : Fz := fun b i => if B ≤ b then φ b i else none
theorem fresh_le (B : Nat) (φ : Fz) : Fle (fresh B φ) φ := fun b i v e => by
  unfold fresh at e
  split at e
  · exact e
  · cases e
theorem fresh_mono {B : Nat} {φ φ' : Fz} (h : Fle φ φ') : Fle (fresh B φ) (fresh B φ') := fun b i v e => by
  unfold fresh at e ⊢
  split at e
  · rename_i hb; rw [if_pos hb]; exact h _ _ _ e
  · cases e
def FreshV (B : Nat) (A : VP) : VP := ⟨fun φ v => A.ok (fresh B φ) v, fun h k => A.mono (fresh_mono h) k⟩
theorem SubL.fresh {L : List Item} {B : Nat} {A : VP} : SubL L (FreshV B A) A := fun φ v _ h => A.mono (fresh_le B φ) h
/-- A result that names only memory from block B on. -/
def FreshR (R : Nat → VP) : Prop := ∀ B B' φ φ' v, B' ≤ B → Fle (fresh B φ) (fresh B' φ') → (R B).ok φ v → (R B').ok φ' v
def FreshRs : List (Nat → VP) → Prop
  | [] => True
  | R :: Rs => FreshR R ∧ FreshRs Rs
theorem FreshRs.alls {B B' : Nat} {φ φ' : Fz} (hB : B' ≤ B) (h : Fle (fresh B φ) (fresh B' φ')) : ∀ {Rs : List (Nat → VP)} {vs : List Value}, FreshRs Rs → Alls φ (Rs.map fun R => R B) vs → Alls φ' (Rs.map fun R => R B') vs
  | [], [], _, _ => trivial
  | R :: Rs, v :: vs, ⟨h1, h2⟩, ⟨h3, h4⟩ => ⟨h1 _ _ _ _ _ hB h h3, FreshRs.alls hB h h2 h4⟩
section
variable {P : Program} {c : Ctx} {A : Nat → Option VP} {L : List Item} {d : Option Tmp} {ty : TypeId} {pos : String} {af : Array Edge} {g : Option (Nat × Bool)}
/-- The contract. -/
def FnF (P : Program) (f : FuncId) (As : List VP) (R : Nat → VP) : Prop :=
  ∀ φ w vs, Alls φ As vs → Mem φ [] w → Calls P f vs.toArray w fun e w' => ∃ v φ', e = .returned v ∧ (R w.heap.size).ok φ' v ∧ HP ⟨w, φ, [], []⟩ φ' [] w'
theorem FnF.toP {f : FuncId} {As : List VP} {R : Nat → VP} {R' : VP} (h : FnF P f As R) (hs : ∀ B φ v, (R B).ok φ v → R'.ok φ v) : FnP P f As R' := fun φ w vs ha hm =>
  (h φ w vs ha hm).mono fun e w' ⟨v, φ', h1, h2, h3⟩ => ⟨(), v, φ', h1, hs _ _ _ h2, by simpa [names] using h3⟩
/-- Own memory that comes back stays. -/
theorem Fn.toF {α : Type} {T : Ty α} {xs : List α} {n : Nat} {e : TypeId} {f : FuncId} {As : List VP} {R : Nat → VP} {R0 : Option Addr × Nat → VP} (h : Fn P f As [] R0 (fun i : Option Addr × Nat => [buf (slV n i) e T xs])) (hT : ∀ x, PureVs (T.cells x))
    (hR : ∀ i B φ v, (FreshV B (IsSl T xs)).ok φ (slV n i) → (R0 i).ok φ v → (R B).ok φ v) : FnF P f As R := fun φ w vs ha hm => by
  refine (h φ w vs ha hm).mono ?_
  rintro e' w' ⟨i, v, φ', h1, h2, h3⟩
  have h3' : HP ⟨w, φ, [], []⟩ φ' [buf (slV n i) e T xs] w' := by simpa [names] using h3
  have hit := h3'.mem.items _ (List.mem_cons_self ..)
  obtain ⟨flat, f1, f2, f3⟩ := buf_owns hit
  have alls_pure : ∀ (ys : List α) (us : List Value) (ψ ψ' : Fz), Alls ψ (ys.flatMap T.cells) us → Alls ψ' (ys.flatMap T.cells) us := fun ys => by
    induction ys with
    | nil =>
      intro us ψ ψ' hh
      match us, hh with
      | [], _ => trivial
    | cons y ys ih =>
      intro us ψ ψ' hh
      rw [List.flatMap_cons] at hh ⊢
      have hl : (T.cells y).length = T.size := T.len y
      have hlen := hh.len
      have e1 := hh.take T.size
      have e2 := hh.drop T.size
      rw [← hl, List.take_left] at e1
      rw [← hl, List.drop_left] at e2
      have e3 := (hT y).alls (φ' := ψ') e1
      have e4 := ih _ ψ ψ' e2
      have := e3.append e4
      rwa [List.take_append_drop] at this
  rcases f3.2 with ⟨h0, hn⟩ | ⟨gg, cap, cur, h0, _, e1, e2, e3, e4, e5⟩
  · have hxs : xs = [] := List.eq_nil_of_length_eq_zero hn
    refine ⟨v, φ', h1, hR i _ φ' v ?_ h2, h3'.lessP (SubP.nil _)⟩
    subst hxs
    rw [h0]
    exact ⟨none, 0, 0, rfl, rfl, Nat.le_refl _, Nat.zero_le _, .inl rfl⟩
  · obtain ⟨φ2, k1, k2⟩ := h3'.freeze (p0 := True) ⟨rfl, trivial⟩ (Repl.head _ (fact (slV n i) (IsSl T xs)) _)
    have hgg : w.heap.size ≤ gg := by
      have := h3'.mine gg (mem_names.2 ⟨_, List.mem_cons_self .., by show (slV n i).ownBlock = some gg; rw [h0]; rfl⟩)
      exact this.resolve_right (by simp)
    have hk3 := k2.mem.items _ (List.mem_cons_self ..)
    obtain ⟨a, m, cp, q1, q2, q3, q4, q5⟩ : (IsSl T xs).ok φ2 (slV n i) := hk3.1
    refine ⟨v, φ2, h1, hR i _ φ2 v ?_ ((R0 i).mono k1 h2), k2.lessP (SubP.nil _)⟩
    refine ⟨a, m, cp, q1, q2, q3, q4, ?_⟩
    rcases q5 with q5 | ⟨b, o, q5, q6⟩
    · exact .inl q5
    · have hb : b = gg := by
        rw [h0, q5] at q1
        injection q1 with q1 _ _
        injection q1 with q1
        injection q1 with q1 _ _
        exact q1.symm
      refine .inr ⟨b, o, q5, fun k x hx j B hB => ?_⟩
      obtain ⟨u, r1, r2, r3⟩ := q6 k x hx j B hB
      refine ⟨u, ?_, ?_, r3⟩
      · unfold fresh; rw [if_pos (by rw [hb]; exact hgg)]; exact r1
      · have hp : ∀ (Bs : List VP) (j : Nat) (D : VP), PureVs Bs → Bs[j]? = some D → PureV D := fun Bs => by
          induction Bs with
          | nil => intro j D _ hj; simp at hj
          | cons E Es ih =>
            intro j D ⟨p1, p2⟩ hj
            cases j with
            | zero => simp at hj; subst hj; exact p1
            | succ j => exact ih j D p2 (by simpa using hj)
        exact hp _ _ _ (hT x) hB _ _ _ r2
/-- A call that hands back own memory. -/
theorem JQ_buf0 {α : Type} {Q : Exit → Act → World → Prop} {N : Nat} {E : Env} {ex : Exit} (e : TypeId) (T : Ty α) (h : JQ c N E (buf (.slice none 0 0) e T [] :: L) Q ex) : JQ c N E L Q ex := fun φ a w st =>
  h φ a w ⟨st.defers, st.size, st.env, st.mem.buf0 e T⟩
/-- What lies in memory, told by less. -/
theorem JQ_blkSub {Q : Exit → Act → World → Prop} {N : Nat} {E : Env} {b : Nat} {t : TypeId} {As As' : List VP} {L' : List Item} {ex : Exit} (hr : Repl L (blk b t As) (blk b t As') L') (h : SubLs L As As') (k : JQ c N E L' Q ex) : JQ c N E L Q ex := fun φ a w st => by
  refine k φ a w ⟨st.defers, st.size, st.env, st.mem.upd hr (Kpt.refl _ _) ?_ fun b' hb' => .inr hb'⟩
  obtain ⟨⟨vs, h1, h2, h3⟩, h4⟩ := st.mem.mem.items _ hr.mem
  exact ⟨⟨vs, h1, h.alls st.mem.mem.facts h2, h3⟩, h4⟩
theorem JC_blkSub {Q : Exit → Act → World → Prop} {N : Nat} {E : Env} {b : Nat} {t : TypeId} {As As' : List VP} {L' : List Item} {x : Code} (hr : Repl L (blk b t As) (blk b t As') L') (h : SubLs L As As') (k : JC P c N x E L' Q) : JC P c N x E L Q := fun φ a w st => by
  refine k φ a w ⟨st.defers, st.size, st.env, st.mem.upd hr (Kpt.refl _ _) ?_ fun b' hb' => .inr hb'⟩
  obtain ⟨⟨vs, h1, h2, h3⟩, h4⟩ := st.mem.mem.items _ hr.mem
  exact ⟨⟨vs, h1, h.alls st.mem.mem.facts h2, h3⟩, h4⟩
end
end Go.Proofs.YtfglhiciagmicaaGreat

/- Short names for the tactics that every walk uses. Own work. -/
namespace Go.Proofs.YtfglhiciagmicaaGreat
open Go.RowKit
set_option linter.unusedVariables false
set_option linter.unusedSimpArgs false
theorem subT {L : List Item} {A B : VP} (h : SubL L A B := by (repeat' (first | exact SubL.rfl' | exact SubL.nil | exact SubL.top | exact SubL.fresh | exact trivial | refine SubL.agg ?_ | refine SubL.tup ?_ | exact SubL.fact (by repeat (first | exact List.Mem.head _ | apply List.Mem.tail)) | refine SubL.row (by rfl) (by rfl) ?_ | refine SubL.lit rfl ?_ | refine SubL.iteT (by first | assumption | (simp; done) | (simp; omega) | (simp_all; done)) ?_ | exact SubL.eq (congrArg Is (u64lit (by first | decide | omega))) | exact SubL.eq (congrArg Is (u32lit (by first | decide | omega))) | refine ⟨?_, ?_⟩))) : SubL L A B := h
theorem subsT {L : List Item} {A B : List VP} (h : SubLs L A B := by (repeat' (first | exact SubL.rfl' | exact SubL.nil | exact SubL.top | exact SubL.fresh | exact trivial | refine SubL.agg ?_ | refine SubL.tup ?_ | exact SubL.fact (by repeat (first | exact List.Mem.head _ | apply List.Mem.tail)) | refine SubL.row (by rfl) (by rfl) ?_ | refine SubL.lit rfl ?_ | refine SubL.iteT (by first | assumption | (simp; done) | (simp; omega) | (simp_all; done)) ?_ | exact SubL.eq (congrArg Is (u64lit (by first | decide | omega))) | exact SubL.eq (congrArg Is (u32lit (by first | decide | omega))) | refine ⟨?_, ?_⟩))) : SubLs L A B := h
theorem subzT {L : List Item} {A B : List VP} (h : SubLs L A B := by (repeat' (first | exact SubL.rfl' | exact trivial | exact SubL.eq (congrArg Is (u64lit (by first | decide | omega))) | exact SubL.eq (congrArg Is (u32lit (by first | decide | omega))) | refine ⟨?_, ?_⟩))) : SubLs L A B := h
theorem evS {A : Nat → Option VP} {L : List Item} {x : Operand} {B : VP} (h : Ev A L x B := by (first | exact Ev.rfl' rfl | exact Ev.sub rfl (by (repeat' (first | exact SubL.rfl' | exact SubL.nil | exact SubL.top | exact SubL.fresh | exact trivial | refine SubL.agg ?_ | refine SubL.tup ?_ | exact SubL.fact (by repeat (first | exact List.Mem.head _ | apply List.Mem.tail)) | refine SubL.row (by rfl) (by rfl) ?_ | refine SubL.lit rfl ?_ | refine SubL.iteT (by first | assumption | (simp; done) | (simp; omega) | (simp_all; done)) ?_ | exact SubL.eq (congrArg Is (u64lit (by first | decide | omega))) | exact SubL.eq (congrArg Is (u32lit (by first | decide | omega))) | refine ⟨?_, ?_⟩))))) : Ev A L x B := h
theorem evG {A : Nat → Option VP} {L : List Item} {x : Operand} {B : VP} (h : Ev A L x B := by (first | exact Ev.rfl' rfl | exact Ev.sub rfl (SubL.iteT (by first | assumption | (simp; done) | (simp; omega) | (simp_all; done)) SubL.rfl'))) : Ev A L x B := h
theorem evG2 {A : Nat → Option VP} {L : List Item} {x : Operand} {B : VP} (h : Ev A L x B := by (first | exact Ev.sub rfl (SubL.iteT (by first | assumption | (simp; done) | (simp; omega) | (simp_all; done)) SubL.rfl') | exact Ev.rfl' rfl)) : Ev A L x B := h
theorem ev64 {A : Nat → Option VP} {L : List Item} {x : Operand} {B : VP} (h : Ev A L x B := by (first | exact Ev.rfl' rfl | exact Ev.sub rfl (SubL.eq (congrArg Is (u64lit (by first | decide | omega)))))) : Ev A L x B := h
theorem ev64g {A : Nat → Option VP} {L : List Item} {x : Operand} {B : VP} (h : Ev A L x B := by (first | exact Ev.rfl' rfl | exact Ev.sub rfl (SubL.iteT (by first | assumption | (simp; done) | (simp; omega) | (simp_all; done)) SubL.rfl') | exact Ev.sub rfl (SubL.eq (congrArg Is (u64lit (by first | decide | omega)))) | exact Ev.sub rfl (SubL.iteT (by first | assumption | (simp; done) | (simp; omega) | (simp_all; done)) (SubL.eq (congrArg Is (u64lit (by first | decide | omega))))))) : Ev A L x B := h
theorem memT {a : Item} {l : List Item} (h : a ∈ l := by (repeat (first | exact List.Mem.head _ | apply List.Mem.tail))) : a ∈ l := h
theorem replT {L L' : List Item} {a b : Item} (h : Repl L a b L' := by (repeat (first | exact Repl.head _ _ _ | apply Repl.tail))) : Repl L a b L' := h
theorem cellsT {A : VP} {As : List VP} (h : CellsOf A As := by (first | exact cells_agg | exact cells_is rfl | exact cells_sl | exact cells_ref | exact cells_lit rfl)) : CellsOf A As := h
theorem wrapT {k : IntKind} {n r : Int} (h : k.wrap n = r := by (first | exact wI64 (by omega) | exact wU64 (by omega) | exact wU32 (by omega) | rfl)) : k.wrap n = r := h
theorem convT {k : IntKind} {n r : Int} (h : k.wrap n = r := by (first | with_reducible exact to_u64_64 _ | with_reducible exact to_u32_32 _ | with_reducible exact to_u8_8 _ | with_reducible exact to_u64_8 _ | with_reducible exact to_u64_32 _ | with_reducible exact to_u8_64 _ | with_reducible exact to_u32_64 _ | with_reducible exact to_i64_8 _ | with_reducible exact to_i64_32 _ | exact wI64 (by first | omega | assumption) | exact wU64 (by omega) | exact wU32 (by omega) | with_reducible exact to_i64_64 _ | with_reducible exact to_u64_int _ | with_reducible exact to_u32_int _ | with_reducible exact to_u8_int _ | rfl)) : k.wrap n = r := h
theorem lendT {L L' : List Item} (h : LendL L L' := by (repeat (first | with_reducible exact LendL.nil | with_reducible apply LendL.buf | with_reducible apply LendL.blk | with_reducible apply LendL.keep))) : LendL L L' := h
theorem pureT {R : VP} (h : PureV R := by (repeat (first | with_reducible exact pure_is | exact trivial | with_reducible refine pure_tup ?_ | with_reducible refine pure_agg ?_ | (with_reducible refine pure_ex (fun _ => ?_)) | refine ⟨?_, ?_⟩))) : PureV R := h
theorem esubT {L : List Item} {E E' : Env} (h : ESub L E E' := by ((repeat (refine ⟨⟨_, rfl, (by (repeat' (first | exact SubL.rfl' | exact SubL.nil | exact SubL.top | exact SubL.fresh | exact trivial | refine SubL.agg ?_ | refine SubL.tup ?_ | exact SubL.fact (by repeat (first | exact List.Mem.head _ | apply List.Mem.tail)) | refine SubL.row (by rfl) (by rfl) ?_ | refine SubL.lit rfl ?_ | refine SubL.iteT (by first | assumption | (simp; done) | (simp; omega) | (simp_all; done)) ?_ | exact SubL.eq (congrArg Is (u64lit (by first | decide | omega))) | exact SubL.eq (congrArg Is (u32lit (by first | decide | omega))) | refine ⟨?_, ?_⟩)))⟩, ?_⟩)); exact trivial)) : ESub L E E' := h
theorem lessT {L M : List Item} (h : SubP M L := by (repeat (first | exact SubP.nil _ | refine SubP.cons (by repeat (first | exact Drop1.here _ _ | apply Drop1.next)) ?_))) : SubP M L := h
theorem lenT {p : Prop} (h : p := by (first | omega | (simp; done) | (simp; omega))) : p := h
theorem idxT {p : Prop} (h : p := by (first | rfl | assumption | omega)) : p := h
end Go.Proofs.YtfglhiciagmicaaGreat

/- Words for memory: a slice that reads as a list of cells; what stays. Own work. -/
namespace Go.Proofs.YtfglhiciagmicaaGreat
open Go.RowKit
set_option linter.unusedVariables false
set_option linter.unusedSimpArgs false

/-- The slice value v of n elements of s cells each reads as the cells xs. -/
def SlN (w : World) (v : Value) (s n : Nat) (xs : List Value) : Prop :=
  xs.length = n * s ∧ ((∃ a c, v = .slice a 0 c ∧ n = 0) ∨
    ∃ b o c, v = .slice (some ⟨b, o, none⟩) n c ∧ n ≤ c ∧ c ≤ maxLen ∧ b < w.heap.size ∧ ∀ i u, xs[i]? = some u → w.cell? ⟨b, o + i, none⟩ = some u)
/-- Elements of one cell. -/
def Sl (w : World) (v : Value) (xs : List Value) : Prop := SlN w v 1 xs.length xs
theorem SlN.below {w w' : World} {v : Value} {s n : Nat} {xs : List Value} (h : SlN w v s n xs) {B : Nat} (hb : Below B w w') (hB : w.heap.size ≤ B) : SlN w' v s n xs := by
  obtain ⟨h1, h2⟩ := h
  refine ⟨h1, ?_⟩
  rcases h2 with h2 | ⟨b, o, c, e1, e2, e3, e4, e5⟩
  · exact .inl h2
  · refine .inr ⟨b, o, c, e1, e2, e3, Nat.lt_of_lt_of_le e4 hb.size, fun i u hu => ?_⟩
    rw [hb.cell (p := ⟨b, o + i, none⟩) (by show b < B; omega)]
    exact e5 i u hu
theorem Sl.below {w w' : World} {v : Value} {xs : List Value} (h : Sl w v xs) (hb : Below w.heap.size w w') : Sl w' v xs := SlN.below h hb (Nat.le_refl _)
theorem Sl.cases {w : World} {v : Value} {xs : List Value} (h : Sl w v xs) :
    (∃ a c, v = .slice a 0 c ∧ xs = []) ∨ ∃ b o c, v = .slice (some ⟨b, o, none⟩) xs.length c ∧ xs.length ≤ c ∧ c ≤ maxLen ∧ b < w.heap.size ∧ ∀ i u, xs[i]? = some u → w.cell? ⟨b, o + i, none⟩ = some u := by
  rcases h.2 with ⟨a, c, e1, e2⟩ | h2
  · exact .inl ⟨a, c, e1, List.eq_nil_of_length_eq_zero e2⟩
  · exact .inr h2
theorem Sl.nil (w : World) : Sl w (.slice none 0 0) [] := ⟨rfl, .inl ⟨_, _, rfl, rfl⟩⟩
/-- Block b is just the cells cs. -/
def Blk (w : World) (b : Nat) (t : TypeId) (cs : Array Value) : Prop := w.heap[b]? = some (.cells cs t (0, 0))
theorem Blk.lt {w : World} {b : Nat} {t : TypeId} {cs : Array Value} (h : Blk w b t cs) : b < w.heap.size := by
  rcases Nat.lt_or_ge b w.heap.size with hl | hl
  · exact hl
  · unfold Blk at h; rw [Array.getElem?_eq_none hl] at h; cases h
theorem Blk.cell {w : World} {b : Nat} {t : TypeId} {cs : Array Value} (h : Blk w b t cs) (i : Nat) : w.cell? ⟨b, i, none⟩ = cs[i]? := cell_of_row w b i cs t (0, 0) h
theorem Blk.frozen {w : World} {b : Nat} {t : TypeId} {cs : Array Value} (h : Blk w b t cs) (i : Nat) : w.frozen? ⟨b, i, none⟩ = false := frozen_of_row w b i cs t h
theorem Blk.setSame {w : World} {b : Nat} {t : TypeId} {cs : Array Value} (h : Blk w b t cs) (i : Nat) (u : Value) : Blk (w.setCell ⟨b, i, none⟩ u) b t (cs.setIfInBounds i u) := heap_setCell_same w b i cs t u h
theorem Blk.below {w w' : World} {b : Nat} {t : TypeId} {cs : Array Value} (h : Blk w b t cs) {B : Nat} (hb : Below B w w') (hB : b < B) : Blk w' b t cs := (hb.block b hB).trans h
theorem Blk.new (w : World) (t : TypeId) (cs : Array Value) : Blk (w.alloc (.cells cs t)) w.heap.size t cs := heap_alloc_new w _
theorem addr_add (b o k : Nat) : (⟨b, o, none⟩ : Addr).add k = ⟨b, o + k, none⟩ := Addr.add_lit b o k
/-- Where a part of a slice begins (at the very end of the capacity the old address stays). -/
def cutA (a : Option Addr) (cap lo s : Nat) : Option Addr := if cap = lo then a else a.map (·.add (lo * s))
@[go_sem ↓ high] theorem sliced_cutA (a : Option Addr) (l h m s : Nat) : sliced a l h m s = .slice (cutA a m l s) (h - l) (m - l) := rfl
/-- A part of a slice of one-cell elements. -/
theorem Sl.cut {w : World} {a : Option Addr} {n c : Nat} {xs : List Value} (h : Sl w (.slice a n c) xs) {lo hi : Nat} (h1 : lo ≤ hi) (h2 : hi ≤ n) {A : Option Addr} {c' : Nat}
    (hA' : A = cutA a c lo 1) (hc : c' = c - lo) : Sl w (.slice A (hi - lo) c') ((xs.take hi).drop lo) := by
  have hA : A = if c = lo then a else a.map (·.add lo) := by rw [hA']; unfold cutA; simp
  have hn : xs.length = n := by
    rcases h.cases with ⟨a', c'', e, rfl⟩ | ⟨b, o, c'', e, _⟩
    · injection e with _ e2 _; rw [e2]; rfl
    · injection e with _ e2 _; exact e2.symm
  have hl : ((xs.take hi).drop lo).length = hi - lo := by rw [List.length_drop, List.length_take]; omega
  refine ⟨by simp, ?_⟩
  rw [hl]
  by_cases h0 : hi - lo = 0
  · exact .inl ⟨A, c', by rw [h0], h0⟩
  · rcases h.cases with ⟨a', c'', e, rfl⟩ | ⟨b, o, c'', e, e2, e3, e4, e5⟩
    · simp at hn; omega
    · injection e with g1 g2 g3
      subst g1 g3
      rw [if_neg (by omega)] at hA
      subst hA
      refine .inr ⟨b, o + lo, c', by rw [Option.map_some, addr_add], by omega, by omega, e4, fun i u hu => ?_⟩
      rw [Nat.add_assoc]
      apply e5
      rw [List.getElem?_drop] at hu
      have hlt : lo + i < hi := by
        rcases Nat.lt_or_ge (lo + i) hi with g | g
        · exact g
        · rw [List.getElem?_eq_none (by rw [List.length_take]; omega)] at hu; cases hu
      rw [List.getElem?_take_of_lt hlt] at hu
      exact hu
theorem Sl.len {w : World} {a : Option Addr} {n c : Nat} {xs : List Value} (h : Sl w (.slice a n c) xs) : xs.length = n := by
  rcases h.cases with ⟨a', c'', e, rfl⟩ | ⟨b, o, c'', e, _⟩
  · injection e with _ e2 _; rw [e2]; rfl
  · injection e with _ e2 _; exact e2.symm
@[go_sem high] theorem min_nat {P : Program} {w : World} (ts : Array TypeId) (t : TypeId) (k k' : IntKind) (x y : Nat) : (Builtin.min_ ts t #[.int k (x : Int), .int k' (y : Int)]).run P w = .ok (.int k ((min x y : Nat) : Int)) w := by
  rw [run_min_int2]
  congr 2
  split <;> omega
@[go_sem high] theorem max_nat {P : Program} {w : World} (ts : Array TypeId) (t : TypeId) (k k' : IntKind) (x y : Nat) : (Builtin.max_ ts t #[.int k (x : Int), .int k' (y : Int)]).run P w = .ok (.int k ((max x y : Nat) : Int)) w := by
  rw [run_max_int2]
  congr 2
  split <;> omega
theorem Sl.at_ {w : World} {a : Option Addr} {n c : Nat} {xs : List Value} (h : Sl w (.slice a n c) xs) {k : Nat} (hk : k < n) :
    ∃ b o, a = some ⟨b, o, none⟩ ∧ b < w.heap.size ∧ ∀ u, xs[k]? = some u → w.cell? ⟨b, o + k, none⟩ = some u := by
  rcases h.cases with ⟨a', c'', e, rfl⟩ | ⟨b, o, c'', e, e2, e3, e4, e5⟩
  · injection e with _ e2 _; omega
  · injection e with g1 g2 g3
    exact ⟨b, o, g1, e4, e5 k⟩
theorem Blk.alloc {w : World} {b : Nat} {t : TypeId} {cs : Array Value} (h : Blk w b t cs) (o : Obj) : Blk (w.alloc o) b t cs := (Below.heap_alloc w o b h.lt).trans h
end Go.Proofs.YtfglhiciagmicaaGreat

/- Members of a view: their cells, their slices, their lists. Own work. -/
namespace Go.Proofs.YtfglhiciagmicaaGreat
open Go.RowKit
set_option linter.unusedVariables false
set_option linter.unusedSimpArgs false
/-- A member. -/
structure Mb where
  n : Int
  b : Int
  f : Bool
  deriving DecidableEq
def Mb.cells (m : Mb) : List Value := [.int .i64 m.n, .int .i64 m.b, .bool m.f]
def Mb.val (m : Mb) : Value := .agg #[.int .i64 m.n, .int .i64 m.b, .bool m.f]
/-- The member at a place. -/
def Mb.at (ms : List Mb) (k : Nat) : Mb := ms.getD k ⟨0, 0, false⟩
theorem Mb.at_get (ms : List Mb) (k : Nat) (h : k < ms.length) : ms[k]? = some (Mb.at ms k) := by
  unfold Mb.at
  rw [List.getD_eq_getElem?_getD, List.getElem?_eq_getElem h]
  rfl
/-- A slice that reads as members. -/
def SlM (w : World) (v : Value) (ms : List Mb) : Prop := SlN w v 3 ms.length (ms.flatMap Mb.cells)
theorem mcells_get (ms : List Mb) (k j : Nat) (hk : k < ms.length) (hj : j < 3) : (ms.flatMap Mb.cells)[k * 3 + j]? = ((Mb.at ms k).cells)[j]? := by
  induction ms generalizing k with
  | nil => simp at hk
  | cons p ms ih =>
    rw [List.flatMap_cons]
    cases k with
    | zero => rw [List.getElem?_append_left (by simp [Mb.cells]; omega)]; simp [Mb.at]
    | succ k =>
      rw [List.getElem?_append_right (by simp [Mb.cells]; omega)]
      have e : (k + 1) * 3 + j - p.cells.length = k * 3 + j := by simp [Mb.cells]; omega
      rw [e, ih k (by simpa using hk)]
      simp [Mb.at]
/-- The three cells of a member at an address. -/
def MbAt (w : World) (b o : Nat) (m : Mb) : Prop :=
  w.cell? ⟨b, o, none⟩ = some (.int .i64 m.n) ∧ w.cell? ⟨b, o + 1, none⟩ = some (.int .i64 m.b) ∧ w.cell? ⟨b, o + 2, none⟩ = some (.bool m.f)
theorem SlM.len {w : World} {a : Option Addr} {n c : Nat} {ms : List Mb} (h : SlM w (.slice a n c) ms) : ms.length = n := by
  rcases h.2 with ⟨a', c', e, e2⟩ | ⟨b, o, c', e, _⟩
  · injection e with _ e3 _; omega
  · injection e with _ e3 _; exact e3.symm
theorem SlM.form {w : World} {v : Value} {ms : List Mb} (h : SlM w v ms) : ∃ a c, v = .slice a ms.length c := by
  rcases h.2 with ⟨a', c', e, e2⟩ | ⟨b, o, c', e, _⟩
  · exact ⟨a', c', by rw [e, e2]⟩
  · exact ⟨_, c', e⟩
theorem SlM.at_ {w : World} {a : Option Addr} {n c : Nat} {ms : List Mb} (h : SlM w (.slice a n c) ms) {k : Nat} (hk : k < n) :
    ∃ b o, a = some ⟨b, o, none⟩ ∧ b < w.heap.size ∧ ∀ j, j < n → MbAt w b (o + j * 3) (Mb.at ms j) := by
  have hl := h.len
  rcases h.2 with ⟨a', c', e, e2⟩ | ⟨b, o, c', e, e2, e3, e4, e5⟩
  · omega
  · injection e with g1 g2 g3
    refine ⟨b, o, g1, e4, fun i hi => ?_⟩
    have g : ∀ j, j < 3 → ∀ u, ((Mb.at ms i).cells)[j]? = some u → w.cell? ⟨b, o + i * 3 + j, none⟩ = some u := fun j hj u hu => by
      rw [Nat.add_assoc]
      exact e5 _ u ((mcells_get ms i j (by omega) hj).trans hu)
    exact ⟨g 0 (by omega) _ rfl, g 1 (by omega) _ rfl, g 2 (by omega) _ rfl⟩
theorem SlM.below {w w' : World} {v : Value} {ms : List Mb} (h : SlM w v ms) (hb : Below w.heap.size w w') : SlM w' v ms := SlN.below h hb (Nat.le_refl _)
theorem SlM.alloc {w : World} {v : Value} {ms : List Mb} (h : SlM w v ms) (o : Obj) : SlM (w.alloc o) v ms := h.below ((Below.refl _ _).alloc (Nat.le_refl _) o)
theorem SlM.nil (w : World) : SlM w (.slice none 0 0) [] := ⟨rfl, .inl ⟨_, _, rfl, rfl⟩⟩
theorem MbAt.below {w w' : World} {b o : Nat} {m : Mb} {B : Nat} (h : MbAt w b o m) (hb : Below B w w') (hB : b < B) : MbAt w' b o m := by
  have k : ∀ x, w'.cell? ⟨b, x, none⟩ = w.cell? ⟨b, x, none⟩ := fun x => hb.cell (p := ⟨b, x, none⟩) hB
  unfold MbAt at *
  simp only [k]
  exact h
end Go.Proofs.YtfglhiciagmicaaGreat

/- Types of the api, as lists of cells. Own work. -/
namespace Go.Proofs.YtfglhiciagmicaaGreat
open Go.RowKit
def tI64 : Ty Int := ⟨1, fun n => [Is (.int .i64 n)], fun _ => rfl⟩
def tU64 : Ty (BitVec 64) := ⟨1, fun n => [Is (.int .u64 (UV n))], fun _ => rfl⟩
def tMb : Ty Mb := ⟨3, fun m => [Is (.int .i64 m.n), Is (.int .i64 m.b), Is (.bool m.f)], fun _ => rfl⟩
/-- A view: its number, its members. -/
@[reducible] def IsView (n : Int) (ms : List Mb) : VP := IsAgg [Is (.int .i64 n), IsSl tMb ms]
@[reducible] def IsMb (m : Mb) : VP := IsAgg [Is (.int .i64 m.n), Is (.int .i64 m.b), Is (.bool m.f)]
end Go.Proofs.YtfglhiciagmicaaGreat

/- Pages: their values, their equality. Own work. -/
namespace Go.Proofs.YtfglhiciagmicaaGreat
open Go.RowKit
set_option linter.unusedVariables false
set_option linter.unusedSimpArgs false
/-- The value of a page. -/
def pageV (l : Int) (h d0 d1 d2 d3 d4 d5 d6 : BitVec 64) : Value :=
  .agg #[.int .i64 l, .int .u64 (UV h), .int .u64 (UV d0), .int .u64 (UV d1), .int .u64 (UV d2), .int .u64 (UV d3), .int .u64 (UV d4), .int .u64 (UV d5), .int .u64 (UV d6)]
theorem u64_one : ∃ i, Tryz.prog.info? 83 = some i := by
  have h : (Tryz.prog.info? 83).isSome = true := by kernel_rfl
  exact Option.isSome_iff_exists.1 h
set_option maxHeartbeats 1000000 in
@[go_sem high] theorem eq7 (d : Nat) (w : World) (a0 a1 a2 a3 a4 a5 a6 b0 b1 b2 b3 b4 b5 b6 : BitVec 64) :
    (Op.equalIn (d + 2) 181 (.agg #[.int .u64 (UV a0), .int .u64 (UV a1), .int .u64 (UV a2), .int .u64 (UV a3), .int .u64 (UV a4), .int .u64 (UV a5), .int .u64 (UV a6)])
      (.agg #[.int .u64 (UV b0), .int .u64 (UV b1), .int .u64 (UV b2), .int .u64 (UV b3), .int .u64 (UV b4), .int .u64 (UV b5), .int .u64 (UV b6)])).run Tryz.prog w =
    .ok (a0 == b0 && (a1 == b1 && (a2 == b2 && (a3 == b3 && (a4 == b4 && (a5 == b5 && a6 == b6)))))) w := by
  obtain ⟨i, hi⟩ := u64_one
  rw [show d + 2 = (d + 1) + 1 from rfl, run_equalIn_array w (d + 1) _ _ Tryz.underlying181 hi]
  have hc : Tryz.prog.cellsOf 83 = 1 := by kernel_rfl
  rw [hc]
  have hp : ∀ (cs : Array Value) (k : Nat) (h : k < cs.size) (w : World), (part 83 cs k).run Tryz.prog w = .ok cs[k] w := by
    intro cs k h w
    simp [part, isAgg, run_underlying Tryz.underlying83, h]
  have he : ∀ (a b : BitVec 64) (w : World), (Op.equalIn (d + 1) 83 (.int .u64 (UV a)) (.int .u64 (UV b))).run Tryz.prog w = .ok (a == b) w := by
    intro a b w
    rw [run_equalIn_int w d _ .u64 .u64 _ _ Tryz.underlying83, UV_beq]
  simp only [List.range_succ, List.range_zero, List.nil_append, List.cons_append, Op.eqItems, Sem.run_bind, Nat.mul_one]
  simp [hp, he]
  by_cases h0 : a0 = b0
  case neg => simp [h0]
  by_cases h1 : a1 = b1
  case neg => simp [h0, h1]
  by_cases h2 : a2 = b2
  case neg => simp [h0, h1, h2]
  by_cases h3 : a3 = b3
  case neg => simp [h0, h1, h2, h3]
  by_cases h4 : a4 = b4
  case neg => simp [h0, h1, h2, h3, h4]
  by_cases h5 : a5 = b5
  case neg => simp [h0, h1, h2, h3, h4, h5]
  by_cases h6 : a6 = b6
  case neg => simp [h0, h1, h2, h3, h4, h5, h6]
  simp [h0, h1, h2, h3, h4, h5, h6]
/-- A page. -/
structure Pg where
  l : Int
  h : BitVec 64
  d0 : BitVec 64
  d1 : BitVec 64
  d2 : BitVec 64
  d3 : BitVec 64
  d4 : BitVec 64
  d5 : BitVec 64
  d6 : BitVec 64
  deriving DecidableEq
def Pg.cells (p : Pg) : List Value := [.int .i64 p.l, .int .u64 (UV p.h), .int .u64 (UV p.d0), .int .u64 (UV p.d1), .int .u64 (UV p.d2), .int .u64 (UV p.d3), .int .u64 (UV p.d4), .int .u64 (UV p.d5), .int .u64 (UV p.d6)]
def Pg.val (p : Pg) : Value := pageV p.l p.h p.d0 p.d1 p.d2 p.d3 p.d4 p.d5 p.d6
/-- A slice that reads as pages. -/
def SlP (w : World) (v : Value) (ps : List Pg) : Prop := SlN w v 9 ps.length (ps.flatMap Pg.cells)
theorem cells_get (ps : List Pg) (k j : Nat) (hk : k < ps.length) (hj : j < 9) : (ps.flatMap Pg.cells)[k * 9 + j]? = (ps[k].cells)[j]? := by
  induction ps generalizing k with
  | nil => simp at hk
  | cons p ps ih =>
    rw [List.flatMap_cons]
    cases k with
    | zero => rw [List.getElem?_append_left (by simp [Pg.cells]; omega)]; simp
    | succ k =>
      rw [List.getElem?_append_right (by simp [Pg.cells]; omega)]
      have e : (k + 1) * 9 + j - p.cells.length = k * 9 + j := by simp [Pg.cells]; omega
      rw [e, ih k (by simpa using hk)]
      rfl
/-- The nine cells of a page at an address. -/
def PgAt (w : World) (b o : Nat) (p : Pg) : Prop :=
  w.cell? ⟨b, o, none⟩ = some (.int .i64 p.l) ∧ w.cell? ⟨b, o + 1, none⟩ = some (.int .u64 (UV p.h)) ∧ w.cell? ⟨b, o + 2, none⟩ = some (.int .u64 (UV p.d0)) ∧ w.cell? ⟨b, o + 3, none⟩ = some (.int .u64 (UV p.d1)) ∧
  w.cell? ⟨b, o + 4, none⟩ = some (.int .u64 (UV p.d2)) ∧ w.cell? ⟨b, o + 5, none⟩ = some (.int .u64 (UV p.d3)) ∧ w.cell? ⟨b, o + 6, none⟩ = some (.int .u64 (UV p.d4)) ∧ w.cell? ⟨b, o + 7, none⟩ = some (.int .u64 (UV p.d5)) ∧ w.cell? ⟨b, o + 8, none⟩ = some (.int .u64 (UV p.d6))
theorem SlP.len {w : World} {a : Option Addr} {n c : Nat} {ps : List Pg} (h : SlP w (.slice a n c) ps) : ps.length = n := by
  rcases h.2 with ⟨a', c', e, e2⟩ | ⟨b, o, c', e, _⟩
  · injection e with _ e3 _; omega
  · injection e with _ e3 _; exact e3.symm
theorem SlP.form {w : World} {v : Value} {ps : List Pg} (h : SlP w v ps) : ∃ a c, v = .slice a ps.length c := by
  rcases h.2 with ⟨a', c', e, e2⟩ | ⟨b, o, c', e, _⟩
  · exact ⟨a', c', by rw [e, e2]⟩
  · exact ⟨_, c', e⟩
theorem SlP.at_ {w : World} {a : Option Addr} {n c : Nat} {ps : List Pg} (h : SlP w (.slice a n c) ps) {k : Nat} (hk : k < ps.length) :
    ∃ b o, a = some ⟨b, o, none⟩ ∧ b < w.heap.size ∧ PgAt w b (o + k * 9) ps[k] := by
  have hl := h.len
  rcases h.2 with ⟨a', c', e, e2⟩ | ⟨b, o, c', e, e2, e3, e4, e5⟩
  · omega
  · injection e with g1 g2 g3
    refine ⟨b, o, g1, e4, ?_⟩
    have g : ∀ j, j < 9 → ∀ u, (ps[k].cells)[j]? = some u → w.cell? ⟨b, o + k * 9 + j, none⟩ = some u := fun j hj u hu => by
      rw [Nat.add_assoc]
      exact e5 _ u ((cells_get ps k j hk hj).trans hu)
    exact ⟨g 0 (by omega) _ rfl, g 1 (by omega) _ rfl, g 2 (by omega) _ rfl, g 3 (by omega) _ rfl, g 4 (by omega) _ rfl, g 5 (by omega) _ rfl, g 6 (by omega) _ rfl, g 7 (by omega) _ rfl, g 8 (by omega) _ rfl⟩
theorem SlP.below {w w' : World} {v : Value} {ps : List Pg} (h : SlP w v ps) (hb : Below w.heap.size w w') : SlP w' v ps := SlN.below h hb (Nat.le_refl _)
theorem PgAt.below {w w' : World} {b o : Nat} {p : Pg} {B : Nat} (h : PgAt w b o p) (hb : Below B w w') (hB : b < B) : PgAt w' b o p := by
  have k : ∀ x, w'.cell? ⟨b, x, none⟩ = w.cell? ⟨b, x, none⟩ := fun x => hb.cell (p := ⟨b, x, none⟩) hB
  unfold PgAt at *
  simp only [k]
  exact h
theorem SlP.alloc {w : World} {v : Value} {ps : List Pg} (h : SlP w v ps) (o : Obj) : SlP (w.alloc o) v ps := h.below ((Below.refl _ _).alloc (Nat.le_refl _) o)
end Go.Proofs.YtfglhiciagmicaaGreat

/- Pages, told by predicates; pages compared. Own work. -/
namespace Go.Proofs.YtfglhiciagmicaaGreat
open Go.RowKit
set_option linter.unusedVariables false
set_option linter.unusedSimpArgs false
def tPg : Ty Pg := ⟨9, fun p => [Is (.int .i64 p.l), Is (.int .u64 (UV p.h)), Is (.int .u64 (UV p.d0)), Is (.int .u64 (UV p.d1)), Is (.int .u64 (UV p.d2)), Is (.int .u64 (UV p.d3)), Is (.int .u64 (UV p.d4)), Is (.int .u64 (UV p.d5)), Is (.int .u64 (UV p.d6))], fun _ => rfl⟩
@[reducible] def IsPg (p : Pg) : VP := IsAgg (tPg.cells p)
end Go.Proofs.YtfglhiciagmicaaGreat

/- From 'well formed' to a bit vector, to bounds. Own work. -/
namespace Go.Proofs.YtfglhiciagmicaaGreat
open Go.RowKit
theorem u64_of_wf {a : Int} (h : (Lit.int .u64 a).wf = true) : ∃ x : BitVec 64, a = UV x := by
  simp [Lit.wf, IntKind.min, IntKind.max, IntKind.signed, IntKind.bits] at h
  refine ⟨BitVec.ofNat 64 a.toNat, ?_⟩
  unfold UV
  rw [BitVec.toNat_ofNat]
  omega
theorem i64_of_wf {a : Int} (h : (Lit.int .i64 a).wf = true) : -9223372036854775808 ≤ a ∧ a ≤ 9223372036854775807 := by
  simp [Lit.wf, IntKind.min, IntKind.max, IntKind.signed, IntKind.bits] at h
  omega
end Go.Proofs.YtfglhiciagmicaaGreat

/- From the frame's reading of a slice of integers to a list of bit vectors. Own work. -/
namespace Go.Proofs.YtfglhiciagmicaaGreat
open Go.RowKit
set_option linter.unusedVariables false
set_option linter.unusedSimpArgs false
end Go.Proofs.YtfglhiciagmicaaGreat

/- From the frame's readings to lists: integers. Own work. -/
namespace Go.Proofs.YtfglhiciagmicaaGreat
open Go.RowKit Go.ChangeShapes Go.WideShapes Go.ChangeAt
set_option linter.unusedVariables false
set_option linter.unusedSimpArgs false
section
variable {H : Type} {enc : TypeId × Value → H} {P : Program} {w : World} {base : Nat} {held : Bool}
theorem trod_lt0 {t : TypeId} {v : Value} {d : DataW H} {ps : List MemPlace} {sp : Nat → Bool} (h : DataW.Trod enc P w 0 sp held t v d ps) : ∀ x ∈ ps, x.block < w.heap.size := by
  obtain ⟨m, hm⟩ := h; exact DataW.trod_lt m _ _ _ hm
end
end Go.Proofs.YtfglhiciagmicaaGreat

/- The bridge: what a call's arguments read as, told by predicates; contracts as statements of the frame. Own work. -/
namespace Go.Proofs.YtfglhiciagmicaaGreat
open Go.RowKit Go.ChangeShapes Go.WideShapes Go.ChangeAt
set_option linter.unusedVariables false
set_option linter.unusedSimpArgs false
/-- All cells of a world stay. -/
def phi (w : World) : Fz := fun b i => w.cell? ⟨b, i, none⟩
theorem Fn.run {P : Program} {f : FuncId} {As : List VP} {r : Value} (h : FnP P f As (Is r)) (w : World) (vs : List Value) (hv : Alls (phi w) As vs) : Calls P f vs.toArray w fun e w' => e = .returned r ∧ Below w.heap.size w w' := by
  refine (h (phi w) w vs hv ⟨fun _ _ _ h => h, by simp, List.Pairwise.nil⟩).mono ?_
  rintro e w' ⟨i, v, φ', rfl, h1, h2⟩
  have h1' : v = r := h1
  subst h1'
  exact ⟨rfl, Kpt.below (by simpa [names] using h2.kept)⟩
def tSl {α : Type} (T : Ty α) : Ty (List α) := ⟨1, fun xs => [IsSl T xs], fun _ => rfl⟩
def I64ok (a : Int) : Prop := -9223372036854775808 ≤ a ∧ a ≤ 9223372036854775807
section
variable {H : Type} {enc : TypeId × Value → H} {P : Program} {w : World} {base : Nat} {sp : Nat → Bool} {held : Bool}
/-- The cells of a type are read as T tells. -/
def Rds {H : Type} (enc : TypeId × Value → H) (P : Program) (w : World) (base : Nat) (sp : Nat → Bool) (held : Bool) {α : Type} (t : TypeId) (T : Ty α) (R : α → Prop) : Prop :=
  ∀ (fuel : Nat) (cs : List Value) (x : DataW H × List MemPlace), DataW.trod enc P w base sp held fuel t cs = some x → ∃ a, Alls (phi w) (T.cells a) cs ∧ ones cs ∧ R a
theorem ones_app {us vs : List Value} (h : ones us) (k : ones vs) : ones (us ++ vs) := fun u hu => (List.mem_append.1 hu).elim (h u) (k u)
theorem ones_1 {v : Value} (h : v.oneCell' = true) : ones [v] := ones_cons h ones_nil
theorem rds_i64 {t : TypeId} (ht : P.underlying t = some (.int .i64)) : Rds enc P w base sp held t tI64 I64ok := by
  intro fuel cs x h
  obtain ⟨a, rfl, _, hw⟩ := DataW.trod_int ht h
  exact ⟨a, ⟨rfl, trivial⟩, ones_1 rfl, i64_of_wf hw⟩
theorem rds_u64 {t : TypeId} (ht : P.underlying t = some (.int .u64)) : Rds enc P w base sp held t tU64 (fun _ => True) := by
  intro fuel cs x h
  obtain ⟨a, rfl, _, hw⟩ := DataW.trod_int ht h
  obtain ⟨b, rfl⟩ := u64_of_wf hw
  exact ⟨b, ⟨rfl, trivial⟩, ones_1 rfl, trivial⟩
theorem rds_slice {α : Type} {T : Ty α} {R : α → Prop} {t e : TypeId} (ht : P.underlying t = some (.slice e)) (hc : P.cellsOf e = T.size) (hs : Nat.blt 0 T.size = true) (he : Rds enc P w base sp held e T R) : Rds enc P w base sp held t (tSl T) (fun xs => ∀ a ∈ xs, R a) := by
  intro fuel cs x h
  have hs' : 0 < T.size := Nat.le_of_ble_eq_true hs
  rcases Go.Deep.open_slice ht h with ⟨rfl, _⟩ | ⟨a, len, cap, m, n, D, Pl, rfl, _, hl, hm, hmm, _, hx⟩
  · exact ⟨[], ⟨⟨none, 0, 0, rfl, rfl, Nat.le_refl _, Nat.zero_le _, .inl rfl⟩, trivial⟩, ones_1 rfl, fun a ha => absurd ha (List.not_mem_nil)⟩
  have hlm : len ≤ m := by rw [hmm]; split <;> omega
  rcases Nat.eq_zero_or_pos len with h0 | h0
  · subst h0
    exact ⟨[], ⟨⟨some a, 0, cap, rfl, rfl, Nat.zero_le _, hm, .inl rfl⟩, trivial⟩, ones_1 rfl, fun a ha => absurd ha (List.not_mem_nil)⟩
  have hspot : a.spot = none := by
    obtain ⟨cs', h1, h2⟩ := hx 0 (by omega)
    rw [hc] at h1
    obtain ⟨_, hlen, hcell⟩ := World.cells?_some h1
    have h3 := hcell 0 hs'
    rw [List.getElem?_eq_getElem (by omega)] at h3
    simpa [Addr.add] using World.cell?_spot h3
  have key : ∀ i, i < len → ∃ y : α, a.spot = none ∧ RefAt (phi w) a.block (a.off + i * T.size) (T.cells y) ∧ R y := fun i hi => by
    obtain ⟨cs', h1, h2⟩ := hx i (by omega)
    rw [hc] at h1
    obtain ⟨_, hlen, hcell⟩ := World.cells?_some h1
    obtain ⟨y, g1, g2, g3⟩ := he _ _ _ h2
    refine ⟨y, hspot, fun j A hA => ?_, g3⟩
    obtain ⟨u, k1, k2⟩ := g1.get hA
    refine ⟨u, ?_, k2, g2 u (List.mem_of_getElem? k1)⟩
    have hj : j < T.size := by
      have := (List.getElem?_eq_some_iff.1 hA).1
      rw [T.len] at this; exact this
    have h3 := hcell j hj
    rw [k1] at h3
    obtain ⟨b, o, q⟩ := a
    dsimp only at hspot
    subst hspot
    rw [addr_add, addr_add] at h3
    exact h3
  obtain ⟨y0, _, _⟩ := key 0 h0
  have : Inhabited α := ⟨y0⟩
  obtain ⟨A, hA⟩ := Go.Deep.choose_lt key
  obtain ⟨b, o, q⟩ := a
  dsimp only at hspot hA
  subst hspot
  refine ⟨(List.range len).map A, ⟨⟨some ⟨b, o, none⟩, len, cap, rfl, by simp, hl, hm, .inr ⟨b, o, rfl, fun k x hk => ?_⟩⟩, trivial⟩, ones_1 rfl, fun y hy => ?_⟩
  · have hlt : k < len := by
      have := (List.getElem?_eq_some_iff.1 hk).1
      simpa using this
    rw [List.getElem?_map, List.getElem?_range hlt] at hk
    simp only [Option.map_some, Option.some.injEq] at hk
    subst hk
    exact (hA k hlt).2.1
  · obtain ⟨i, hi, rfl⟩ := List.mem_map.1 hy
    exact (hA i (List.mem_range.1 hi)).2.2
/-- An argument of one cell. -/
theorem rds_arg1 {α : Type} {T : Ty α} {R : α → Prop} {t : TypeId} {v : Value} {d : DataW H} {ps : List MemPlace} {A : α → VP} (hT : ∀ a, T.cells a = [A a]) (he : Rds enc P w base sp held t T R) (hv : v.cells.toList = [v])
    (h : DataW.Trod enc P w base sp held t v d ps) : ∃ a, (A a).ok (phi w) v ∧ R a := by
  obtain ⟨fuel, hf⟩ := h
  obtain ⟨a, h1, _, h2⟩ := he _ _ _ hf
  rw [hv, hT] at h1
  exact ⟨a, h1.1, h2⟩
theorem rds_argS {α : Type} {T : Ty α} {R : α → Prop} {t : TypeId} {fs : Array Field} (ht : P.underlying t = some (.struct fs)) {r : Reach} {b0 : Nat} {v : Value} {d : DataW H} {ps : List MemPlace} (he : Rds enc P w base sp held t T R)
    (hval : Value.okWide P w r b0 t v) (h : DataW.Trod enc P w base sp held t v d ps) : ∃ a, (IsAgg (T.cells a)).ok (phi w) v ∧ R a := by
  obtain ⟨cs, rfl, _⟩ := okWide_struct ht hval
  obtain ⟨fuel, hf⟩ := h
  obtain ⟨a, h1, h2, h3⟩ := he _ _ _ hf
  exact ⟨a, ⟨_, rfl, h1, h2⟩, h3⟩
theorem rds_argSl {α : Type} {T : Ty α} {R : List α → Prop} {t e : TypeId} (ht : P.underlying t = some (.slice e)) {r : Reach} {b0 : Nat} {v : Value} {d : DataW H} {ps : List MemPlace} (he : Rds enc P w base sp held t (tSl T) R)
    (hval : Value.okWide P w r b0 t v) (h : DataW.Trod enc P w base sp held t v d ps) : ∃ xs, (IsSl T xs).ok (phi w) v ∧ R xs := by
  obtain ⟨a, len, cap, rfl⟩ := okWide_slice ht hval
  exact rds_arg1 (A := IsSl T) (fun _ => rfl) he rfl h
end
end Go.Proofs.YtfglhiciagmicaaGreat

/- The types of this seat: verbs, completions, nodes, pairs, clients. Own work. -/
namespace Go.Proofs.YtfglhiciagmicaaGreat
open Go.RowKit
set_option linter.unusedVariables false
set_option linter.unusedSimpArgs false
structure GVerb where
  kind : Int
  node : Int
  at_ : Int
  n : Int
  old : BitVec 64
  new : BitVec 64
  words : List (BitVec 64)
  key : BitVec 64
  boot : Int
def tGVerb : Ty GVerb := ⟨9, fun a => [Is (.int .i64 a.kind), Is (.int .i64 a.node), Is (.int .i64 a.at_), Is (.int .i64 a.n), Is (.int .u64 (UV a.old)), Is (.int .u64 (UV a.new)), IsSl tU64 a.words, Is (.int .u64 (UV a.key)), Is (.int .i64 a.boot)], fun _ => rfl⟩
@[reducible] def IsGVerb (a : GVerb) : VP := IsAgg (tGVerb.cells a)
/-- A completion. -/
structure Dn where
  code : Int
  words : List (BitVec 64)
def tDn : Ty Dn := ⟨2, fun a => [Is (.int .i64 a.code), IsSl tU64 a.words], fun _ => rfl⟩
@[reducible] def IsDn (a : Dn) : VP := IsAgg (tDn.cells a)
def tDs : Ty (List Dn) := ⟨1, fun a => [IsSl tDn a], fun _ => rfl⟩
/-- A memory node: where its words lie, whether it is up. -/
structure FN where
  w : Option Addr × Nat
  up : Bool
def tFN : Ty FN := ⟨2, fun a => [Is (slV 784 a.w), Is (.bool a.up)], fun _ => rfl⟩
/-- A verb that has not completed. -/
structure Pd where
  v : GVerb
  ex : Int
  ws : List (BitVec 64)
  slot : Int
def tPd : Ty Pd := ⟨12, fun p => [Is (.int .i64 p.v.kind), Is (.int .i64 p.v.node), Is (.int .i64 p.v.at_), Is (.int .i64 p.v.n), Is (.int .u64 (UV p.v.old)), Is (.int .u64 (UV p.v.new)), IsSl tU64 p.v.words, Is (.int .u64 (UV p.v.key)), Is (.int .i64 p.v.boot), Is (.int .i64 p.ex), IsSl tU64 p.ws, Is (.int .i64 p.slot)], fun _ => rfl⟩
/-- A queue pair. -/
structure Pr where
  client : Int
  inc : Int
  node : Int
  q : List Pd
def tPr : Ty Pr := ⟨4, fun a => [Is (.int .i64 a.client), Is (.int .i64 a.inc), Is (.int .i64 a.node), IsSl tPd a.q], fun _ => rfl⟩
/-- A compute node: its completions and what it has lie in rows of their own. -/
structure Cn where
  alive : Bool
  inc : Int
  on : Bool
  done : Value
  have_ : Value
  trips : Int
  posted : Int
def tCn : Ty Cn := ⟨7, fun a => [Is (.bool a.alive), Is (.int .i64 a.inc), Is (.bool a.on), Is a.done, Is a.have_, Is (.int .i64 a.trips), Is (.int .i64 a.posted)], fun _ => rfl⟩
def tVal : Ty Value := ⟨1, fun v => [Is v], fun _ => rfl⟩
structure Pc where
  at_ : Int
  n : Int
def tPc : Ty Pc := ⟨2, fun a => [Is (.int .i64 a.at_), Is (.int .i64 a.n)], fun _ => rfl⟩
@[reducible] def IsPc (a : Pc) : VP := IsAgg (tPc.cells a)
structure Hg where
  inc : Int
  until_ : Int
def tHg : Ty Hg := ⟨2, fun a => [Is (.int .i64 a.inc), Is (.int .i64 a.until_)], fun _ => rfl⟩
@[reducible] def IsHg (a : Hg) : VP := IsAgg (tHg.cells a)
structure Ch where
  orphan : Int
  client : Int
  node : Int
def tCh : Ty Ch := ⟨3, fun a => [Is (.int .i64 a.orphan), Is (.int .i64 a.client), Is (.int .i64 a.node)], fun _ => rfl⟩
@[reducible] def IsCh (a : Ch) : VP := IsAgg (tCh.cells a)
def AnyI : VP := VEx fun n : Int => Is (.int .i64 n)
end Go.Proofs.YtfglhiciagmicaaGreat

/- Types' cells normalised; by name. Own work. -/
namespace Go.Proofs.YtfglhiciagmicaaGreat
open Go.RowKit
theorem nrmT {a b : List VP} (h : a = b := by (first | ((simp only [tPg, tU64, tI64, tMb, tGVerb, tDn, tDs, tFN, tPd, tPr, tCn, tVal, tPc, tHg, tCh, zcells, Nat.reduceMul, Nat.reduceAdd, Value.cells, ovr, List.set_cons_succ, List.set_cons_zero, List.map_cons, List.map_nil, List.drop_succ_cons, List.drop_zero, List.take_succ_cons, List.take_zero, List.flatMap_cons, List.flatMap_nil, List.append_nil, List.cons_append, List.nil_append, List.toList_toArray]); (try exact rfl)) | exact rfl)) : a = b := h
end Go.Proofs.YtfglhiciagmicaaGreat

/- Pointers and tags: plain functions and their laws. Own work. -/
namespace Go.Proofs.YtfglhiciagmicaaGreat
open Go.RowKit
set_option linter.unusedVariables false
set_option linter.unusedSimpArgs false
theorem UV_low (w : Nat) (k : Nat) (x : BitVec w) (m : BitVec w) (hm : m.toNat = 2 ^ k - 1) : UV (x &&& m) = UV x % 2 ^ k := by
  unfold UV
  rw [BitVec.toNat_and, hm, Nat.and_two_pow_sub_one_eq_mod]
  push_cast; rfl
theorem UV_shr (w : Nat) (x : BitVec w) (n : Nat) : UV (x >>> n) = UV x / 2 ^ n := by
  unfold UV
  rw [BitVec.toNat_ushiftRight, Nat.shiftRight_eq_div_pow]
  push_cast; rfl
structure Pt where
  line : Int
  gen : Int
  deriving DecidableEq
def Pt.nil : Pt := ⟨0, 0⟩
end Go.Proofs.YtfglhiciagmicaaGreat

/- Contracts: leases as words; addresses; keys. Own work. -/
namespace Go.Proofs.YtfglhiciagmicaaGreat
open Go.RowKit
set_option linter.unusedVariables false
set_option linter.unusedSimpArgs false
set_option maxRecDepth 100000
-- word.within[int]: function 58
theorem within_ok (n lo hi : Int) : FnP Tryz.prog 58 [Is (.int .i64 n), Is (.int .i64 lo), Is (.int .i64 hi)] (Is (.bool (decide (n ≥ lo) && decide (n ≤ hi)))) := by
  refine FnP.enter Tryz.func58 Tryz.ntmps58 rfl rfl ?_
  intro c hX
  refine JC_seq ?_
  refine JC_region ?_
  refine JL_1 rfl (op_assign rfl) ?_
  refine JL_nil ?_
  refine JQ_then (JC_seq ?_)
  refine JC_region ?_
  refine JL_1 rfl (op_move rfl) ?_
  refine JL_1 rfl (op_move rfl) ?_
  refine JL_1 rfl (op_geq (Ev.rfl' rfl) (Ev.rfl' rfl)) ?_
  refine JL_1 rfl (op_move rfl) ?_
  (refine JL_i0 rfl rfl rfl (fun hg => (by have hg0 := hg; (try simp at hg); exact op_moveE (Ev.rfl' rfl))) ?_)
  (refine JL_i0 rfl rfl rfl (fun hg => (by have hg0 := hg; (try simp at hg); exact op_moveE (Ev.rfl' rfl))) ?_)
  (refine JL_i0 rfl rfl rfl (fun hg => (by have hg0 := hg; (try simp at hg); exact op_leq evG evG)) ?_)
  refine JL_1 rfl (op_and (Ev.rfl' rfl) rfl (fun h => by exact SubL.iteT (by (rw [h]; rfl)) SubL.rfl')) ?_
  refine JL_1 rfl (op_assign rfl) ?_
  refine JL_nil ?_
  refine JQ_then (JC_ret ?_)
  refine JQ_ret1 Tryz.results58 rfl () (SubL.eq ?_) (List.nil_sublist _)
  rfl
def incB (i : Int) : Bool := (decide (i ≥ 1) && decide (i ≤ 59)) && i.tmod 2 == 1
theorem inc_rng {i : Int} (h : incB i = true) : 1 ≤ i ∧ i ≤ 59 := by
  unfold incB at h
  simp at h
  omega
-- word.isInc: function 57
theorem isInc_ok (i : Int) : FnP Tryz.prog 57 [Is (.int .i64 i)] (Is (.bool (incB i))) := by
  refine FnP.enter Tryz.func57 Tryz.ntmps57 rfl rfl ?_
  intro c hX
  refine JC_seq ?_
  refine JC_region ?_
  refine JL_1 rfl (op_assign rfl) ?_
  refine JL_nil ?_
  refine JQ_then (JC_seq ?_)
  refine JC_region ?_
  refine JL_1 rfl (op_move rfl) ?_
  refine JL_1 rfl (op_call Tryz.call58 (within_ok _ _ _) ⟨evS, ⟨evS, ⟨evS, trivial⟩⟩⟩) ?_
  refine JL_1 rfl (op_move rfl) ?_
  (refine JL_i0 rfl rfl rfl (fun hg => (by have hg0 := hg; (try simp at hg); exact op_moveE (Ev.rfl' rfl))) ?_)
  (refine JL_i0 rfl rfl rfl (fun hg => (by have hg0 := hg; (try simp at hg); exact op_rem evG evG (by omega) rfl)) ?_)
  (refine JL_i0 rfl rfl rfl (fun hg => (by have hg0 := hg; (try simp at hg); exact op_eql evG evG)) ?_)
  refine JL_1 rfl (op_and (Ev.rfl' rfl) rfl (fun h => by exact SubL.iteT (by (rw [h]; rfl)) SubL.rfl')) ?_
  refine JL_1 rfl (op_assign rfl) ?_
  refine JL_nil ?_
  refine JQ_then (JC_ret ?_)
  refine JQ_ret1 Tryz.results57 rfl () (SubL.eq ?_) (List.nil_sublist _)
  rfl
-- bodegaref1.Inc: function 69
theorem IncR_ok (i : Int) : FnP Tryz.prog 69 [Is (.int .i64 i)] (Is (.bool (incB i))) := by
  refine FnP.enter Tryz.func69 Tryz.ntmps69 rfl rfl ?_
  intro c hX
  refine JC_seq ?_
  refine JC_region ?_
  refine JL_1 rfl (op_assign rfl) ?_
  refine JL_nil ?_
  refine JQ_then (JC_seq ?_)
  refine JC_region ?_
  refine JL_1 rfl (op_move rfl) ?_
  refine JL_1 rfl (op_geq (Ev.rfl' rfl) (Ev.rfl' rfl)) ?_
  refine JL_1 rfl (op_move rfl) ?_
  (refine JL_i0 rfl rfl rfl (fun hg => (by have hg0 := hg; (try simp at hg); exact op_moveE (Ev.rfl' rfl))) ?_)
  (refine JL_i0 rfl rfl rfl (fun hg => (by have hg0 := hg; (try simp at hg); exact op_leq evG evG)) ?_)
  refine JL_1 rfl (op_and (Ev.rfl' rfl) rfl (fun h => by exact SubL.iteT (by (rw [h]; rfl)) SubL.rfl')) ?_
  refine JL_1 rfl (op_move rfl) ?_
  (refine JL_i0 rfl rfl rfl (fun hg => (by have hg0 := hg; (try simp at hg); exact op_moveE (Ev.rfl' rfl))) ?_)
  (refine JL_i0 rfl rfl rfl (fun hg => (by have hg0 := hg; (try simp at hg); exact op_rem evG evG (by omega) rfl)) ?_)
  (refine JL_i0 rfl rfl rfl (fun hg => (by have hg0 := hg; (try simp at hg); exact op_eql evG evG)) ?_)
  refine JL_1 rfl (op_and (Ev.rfl' rfl) rfl (fun h => by exact SubL.iteT (by (rw [h]; rfl)) SubL.rfl')) ?_
  refine JL_1 rfl (op_assign rfl) ?_
  refine JL_nil ?_
  refine JQ_then (JC_ret ?_)
  refine JQ_ret1 Tryz.results69 rfl () (SubL.eq ?_) (List.nil_sublist _)
  rfl
def leaseU (inc u : Int) : BitVec 64 := BitVec.ofInt 64 inc <<< 32 ||| BitVec.ofInt 64 u
def leaseV (inc u : Int) : BitVec 64 × Int := if incB inc = true then (if 0 ≤ u ∧ u ≤ 4294967295 then (leaseU inc u, 0) else (0#64, 1)) else (0#64, 2)
-- word.Lease: function 27
theorem Lease_ok (inc u : Int) : FnP Tryz.prog 27 [Is (.int .i64 inc), Is (.int .i64 u)] (IsTup [Is (.int .u64 (UV (leaseV inc u).1)), Is (.int .i64 (leaseV inc u).2)]) := by
  refine FnP.enter Tryz.func27 Tryz.ntmps27 rfl rfl ?_
  intro c hX
  refine JC_seq ?_
  refine JC_region ?_
  refine JL_1 rfl (op_assign rfl) ?_
  refine JL_1 rfl (op_assign rfl) ?_
  refine JL_nil ?_
  refine JQ_then (JC_seq (JC_block (JC_seq ?_)))
  refine JC_region ?_
  refine JL_1 rfl (op_move rfl) ?_
  refine JL_1 rfl (op_call Tryz.call57 (isInc_ok _) ⟨evS, trivial⟩) ?_
  refine JL_1 rfl (op_not (Ev.rfl' rfl)) ?_
  refine JL_1 rfl (op_assign rfl) ?_
  refine JL_nil ?_
  refine JQ_then ?_
  refine JC_cond (Ev.rfl' rfl) (fun h1 => ?_) (fun h1 => ?_)
  · have g : ¬ incB inc = true := by simpa using h1
    have e : leaseV inc u = (0#64, 2) := by unfold leaseV; rw [if_neg g]
    rw [e]
    refine JC_seq ?_
    refine JC_region ?_
    refine JL_1 rfl (op_assign rfl) ?_
    refine JL_1 rfl (op_assign rfl) ?_
    refine JL_nil ?_
    refine JQ_then (JC_ret (JQ_block_ret (JQ_then_ret ?_)))
    exact JQ_ret (Bs := [Is (.int .u64 0), Is (.int .i64 2)]) Tryz.results27 ⟨⟨_, rfl, subT⟩, ⟨⟨_, rfl, subT⟩, trivial⟩⟩ () SubL.rfl' (List.nil_sublist _)
  have g : incB inc = true := by simpa using h1
  have gr := inc_rng g
  clear h1
  refine JC_seq ?_
  refine JC_region ?_
  refine JL_1 rfl (op_move rfl) ?_
  refine JL_1 rfl (op_call Tryz.call58 (within_ok _ _ _) ⟨evS, ⟨evS, ⟨evS, trivial⟩⟩⟩) ?_
  refine JL_1 rfl (op_not (Ev.rfl' rfl)) ?_
  refine JL_1 rfl (op_assign rfl) ?_
  refine JL_nil ?_
  refine JQ_then ?_
  refine JC_cond (Ev.rfl' rfl) (fun h3 => ?_) (fun h3 => ?_)
  · have g2 : ¬ (0 ≤ u ∧ u ≤ 4294967295) := by simp at h3; omega
    have e : leaseV inc u = (0#64, 1) := by unfold leaseV; rw [if_pos g, if_neg g2]
    rw [e]
    refine JC_seq ?_
    refine JC_region ?_
    refine JL_1 rfl (op_assign rfl) ?_
    refine JL_1 rfl (op_assign rfl) ?_
    refine JL_nil ?_
    refine JQ_then (JC_ret (JQ_block_ret (JQ_then_ret ?_)))
    exact JQ_ret (Bs := [Is (.int .u64 0), Is (.int .i64 1)]) Tryz.results27 ⟨⟨_, rfl, subT⟩, ⟨⟨_, rfl, subT⟩, trivial⟩⟩ () SubL.rfl' (List.nil_sublist _)
  have g2 : 0 ≤ u ∧ u ≤ 4294967295 := by simp at h3; omega
  have e : leaseV inc u = (leaseU inc u, 0) := by unfold leaseV; rw [if_pos g, if_pos g2]
  rw [e]
  clear h3
  refine JC_skip (JQ_block (JQ_then (JC_seq ?_)))
  refine JC_region ?_
  refine JL_1 rfl (op_move rfl) ?_
  refine JL_1 rfl (op_conv (Ev.rfl' rfl) rfl rfl (to_u64_int _)) ?_
  refine JL_1 rfl (by exact op_shlU (k := 32) ev64 (Ev.rfl' rfl) (by omega) idxT) ?_
  refine JL_1 rfl (op_move rfl) ?_
  refine JL_1 rfl (op_conv (Ev.rfl' rfl) rfl rfl (to_u64_int _)) ?_
  refine JL_1 rfl (by exact op_bits ev64 ev64 (by simp) (or_u64 _ _)) ?_
  refine JL_1 rfl (op_assign rfl) ?_
  refine JL_1 rfl (op_assign rfl) ?_
  refine JL_nil ?_
  refine JQ_then (JC_ret ?_)
  exact JQ_ret (Bs := [Is (.int .u64 (UV (leaseU inc u))), Is (.int .i64 0)]) Tryz.results27 ⟨⟨_, rfl, subT⟩, ⟨⟨_, rfl, subT⟩, trivial⟩⟩ () SubL.rfl' (List.nil_sublist _)
-- bodegaref1.Lease: function 33
theorem LeaseR_ok (inc u : Int) : FnP Tryz.prog 33 [Is (.int .i64 inc), Is (.int .i64 u)] (IsTup [Is (.int .u64 (UV (leaseV inc u).1)), Is (.int .i64 (leaseV inc u).2)]) := by
  refine FnP.enter Tryz.func33 Tryz.ntmps33 rfl rfl ?_
  intro c hX
  refine JC_seq ?_
  refine JC_region ?_
  refine JL_1 rfl (op_assign rfl) ?_
  refine JL_1 rfl (op_assign rfl) ?_
  refine JL_nil ?_
  refine JQ_then (JC_seq (JC_seq ?_))
  refine JC_region ?_
  refine JL_1 rfl (op_move rfl) ?_
  refine JL_1 rfl (op_call Tryz.call69 (IncR_ok _) ⟨evS, trivial⟩) ?_
  refine JL_1 rfl (op_not (Ev.rfl' rfl)) ?_
  refine JL_nil ?_
  refine JQ_then ?_
  refine JC_cond (Ev.rfl' rfl) (fun h1 => ?_) (fun h1 => ?_)
  · have g : ¬ incB inc = true := by simpa using h1
    have e : leaseV inc u = (0#64, 2) := by unfold leaseV; rw [if_neg g]
    rw [e]
    refine JC_seq ?_
    refine JC_region ?_
    refine JL_1 rfl (op_assign rfl) ?_
    refine JL_1 rfl (op_assign rfl) ?_
    refine JL_nil ?_
    refine JQ_then (JC_ret (JQ_then_ret ?_))
    exact JQ_ret (Bs := [Is (.int .u64 0), Is (.int .i64 2)]) Tryz.results33 ⟨⟨_, rfl, subT⟩, ⟨⟨_, rfl, subT⟩, trivial⟩⟩ () SubL.rfl' (List.nil_sublist _)
  have g : incB inc = true := by simpa using h1
  have gr := inc_rng g
  clear h1
  refine JC_skip (JQ_then (JC_seq (JC_seq ?_)))
  refine JC_region ?_
  refine JL_1 rfl (op_move rfl) ?_
  refine JL_1 rfl (op_lss (Ev.rfl' rfl) (Ev.rfl' rfl)) ?_
  refine JL_1 rfl (op_move rfl) ?_
  (refine JL_i0 rfl rfl rfl (fun hg => (by have hg0 := hg; (try simp at hg); exact op_moveE (Ev.rfl' rfl))) ?_)
  (refine JL_i0 rfl rfl rfl (fun hg => (by have hg0 := hg; (try simp at hg); exact op_gtr evG evG)) ?_)
  refine JL_1 rfl (op_or (Ev.rfl' rfl) rfl (fun h => by exact SubL.iteT (by (rw [h]; rfl)) SubL.rfl')) ?_
  refine JL_nil ?_
  refine JQ_then ?_
  refine JC_cond (Ev.rfl' rfl) (fun h3 => ?_) (fun h3 => ?_)
  · have g2 : ¬ (0 ≤ u ∧ u ≤ 4294967295) := by simp at h3; omega
    have e : leaseV inc u = (0#64, 1) := by unfold leaseV; rw [if_pos g, if_neg g2]
    rw [e]
    refine JC_seq ?_
    refine JC_region ?_
    refine JL_1 rfl (op_assign rfl) ?_
    refine JL_1 rfl (op_assign rfl) ?_
    refine JL_nil ?_
    refine JQ_then (JC_ret (JQ_then_ret ?_))
    exact JQ_ret (Bs := [Is (.int .u64 0), Is (.int .i64 1)]) Tryz.results33 ⟨⟨_, rfl, subT⟩, ⟨⟨_, rfl, subT⟩, trivial⟩⟩ () SubL.rfl' (List.nil_sublist _)
  have g2 : 0 ≤ u ∧ u ≤ 4294967295 := by simp at h3; omega
  have e : leaseV inc u = (leaseU inc u, 0) := by unfold leaseV; rw [if_pos g, if_pos g2]
  rw [e]
  clear h3
  refine JC_skip (JQ_then (JC_seq ?_))
  refine JC_region ?_
  refine JL_1 rfl (op_move rfl) ?_
  refine JL_1 rfl (op_conv (Ev.rfl' rfl) rfl rfl (to_u64_int _)) ?_
  refine JL_1 rfl (by exact op_shlU (k := 32) ev64 (Ev.rfl' rfl) (by omega) idxT) ?_
  refine JL_1 rfl (op_move rfl) ?_
  refine JL_1 rfl (op_conv (Ev.rfl' rfl) rfl rfl (to_u64_int _)) ?_
  refine JL_1 rfl (by exact op_bits ev64 ev64 (by simp) (or_u64 _ _)) ?_
  refine JL_1 rfl (op_assign rfl) ?_
  refine JL_1 rfl (op_assign rfl) ?_
  refine JL_nil ?_
  refine JQ_then (JC_ret ?_)
  exact JQ_ret (Bs := [Is (.int .u64 (UV (leaseU inc u))), Is (.int .i64 0)]) Tryz.results33 ⟨⟨_, rfl, subT⟩, ⟨⟨_, rfl, subT⟩, trivial⟩⟩ () SubL.rfl' (List.nil_sublist _)
theorem lease_back (l : BitVec 64) : leaseU (UV (l >>> 32)) (UV (l &&& BitVec.ofInt 64 4294967295)) = l := by
  unfold leaseU
  rw [ofInt_UV, ofInt_UV]
  apply BitVec.eq_of_getLsbD_eq
  intro i hi
  have hm : ∀ k : Fin 64, (BitVec.ofInt 64 4294967295).getLsbD k.val = decide (k.val < 32) := by decide +kernel
  have h1 := hm ⟨i, hi⟩
  simp only at h1
  simp only [BitVec.getLsbD_or, BitVec.getLsbD_shiftLeft, BitVec.getLsbD_ushiftRight, BitVec.getLsbD_and, h1, hi]
  by_cases h : i < 32
  · simp [h]
  · have e : 32 + (i - 32) = i := by omega
    simp [h, e]
theorem low32 (l : BitVec 64) : 0 ≤ UV (l &&& BitVec.ofInt 64 4294967295) ∧ UV (l &&& BitVec.ofInt 64 4294967295) ≤ 4294967295 := by
  rw [UV_low 64 32 l _ rfl]
  have := UV_nonneg l
  omega
theorem high32 (l : BitVec 64) : 0 ≤ UV (l >>> 32) ∧ UV (l >>> 32) ≤ 4294967295 := by
  rw [UV_shr]
  have h : UV l < 18446744073709551616 := by unfold UV; have := l.isLt; omega
  have := UV_nonneg l
  omega
def splitV (l : BitVec 64) : Int × Int × Bool := if incB (UV (l >>> 32)) = true then (UV (l >>> 32), UV (l &&& BitVec.ofInt 64 4294967295), true) else (0, 0, false)
-- bodegaref1.SplitLease: function 56
theorem SplitLeaseR_ok (l : BitVec 64) : FnP Tryz.prog 56 [Is (.int .u64 (UV l))] (IsTup [Is (.int .i64 (splitV l).1), Is (.int .i64 (splitV l).2.1), Is (.bool (splitV l).2.2)]) := by
  have h1 := low32 l
  have h2 := high32 l
  refine FnP.enter Tryz.func56 Tryz.ntmps56 rfl rfl ?_
  intro c hX
  refine JC_seq ?_
  refine JC_region ?_
  refine JL_1 rfl (op_assign rfl) ?_
  refine JL_1 rfl (op_assign rfl) ?_
  refine JL_1 rfl (op_assign rfl) ?_
  refine JL_nil ?_
  refine JQ_then (JC_seq ?_)
  refine JC_region ?_
  refine JL_1 rfl (op_move rfl) ?_
  refine JL_1 rfl (by exact op_shrU (k := 32) ev64 (Ev.rfl' rfl) (by omega) idxT) ?_
  refine JL_1 rfl (op_conv (Ev.rfl' rfl) rfl rfl (wI64 (by omega))) ?_
  refine JL_1 rfl (op_assign rfl) ?_
  refine JL_nil ?_
  refine JQ_then (JC_seq (JC_seq ?_))
  refine JC_region ?_
  refine JL_1 rfl (op_move rfl) ?_
  refine JL_1 rfl (op_call Tryz.call69 (IncR_ok _) ⟨evS, trivial⟩) ?_
  refine JL_1 rfl (op_not (Ev.rfl' rfl)) ?_
  refine JL_nil ?_
  refine JQ_then ?_
  refine JC_cond (Ev.rfl' rfl) (fun h2 => ?_) (fun h2 => ?_)
  · have g : ¬ incB (UV (l >>> 32)) = true := by simpa using h2
    have e : splitV l = (0, 0, false) := by unfold splitV; rw [if_neg g]
    rw [e]
    refine JC_seq ?_
    refine JC_region ?_
    refine JL_1 rfl (op_assign rfl) ?_
    refine JL_1 rfl (op_assign rfl) ?_
    refine JL_1 rfl (op_assign rfl) ?_
    refine JL_nil ?_
    refine JQ_then (JC_ret (JQ_then_ret ?_))
    exact JQ_ret (Bs := [Is (.int .i64 0), Is (.int .i64 0), Is (.bool false)]) Tryz.results56 ⟨⟨_, rfl, subT⟩, ⟨⟨_, rfl, subT⟩, ⟨⟨_, rfl, subT⟩, trivial⟩⟩⟩ () SubL.rfl' (List.nil_sublist _)
  have g : incB (UV (l >>> 32)) = true := by simpa using h2
  have e : splitV l = (UV (l >>> 32), UV (l &&& BitVec.ofInt 64 4294967295), true) := by unfold splitV; rw [if_pos g]
  rw [e]
  clear h2
  refine JC_skip (JQ_then (JC_seq ?_))
  refine JC_region ?_
  refine JL_1 rfl (op_move rfl) ?_
  refine JL_1 rfl (op_move rfl) ?_
  refine JL_1 rfl (by exact op_bits ev64 ev64 (by simp) (and_u64 _ _)) ?_
  refine JL_1 rfl (op_conv (Ev.rfl' rfl) rfl rfl (wI64 (by omega))) ?_
  refine JL_1 rfl (op_assign rfl) ?_
  refine JL_1 rfl (op_assign rfl) ?_
  refine JL_1 rfl (op_assign rfl) ?_
  refine JL_nil ?_
  refine JQ_then (JC_ret ?_)
  exact JQ_ret (Bs := [Is (.int .i64 (UV (l >>> 32))), Is (.int .i64 (UV (l &&& BitVec.ofInt 64 4294967295))), Is (.bool true)]) Tryz.results56 ⟨⟨_, rfl, subT⟩, ⟨⟨_, rfl, subT⟩, ⟨⟨_, rfl, subT⟩, trivial⟩⟩⟩ () SubL.rfl' (List.nil_sublist _)
-- word.mask: function 84
theorem mask_ok : FnP Tryz.prog 84 [Is (.int .i64 32)] (Is (.int .u64 (UV (BitVec.ofInt 64 4294967295)))) := by
  refine FnP.enter Tryz.func84 Tryz.ntmps84 rfl rfl ?_
  intro c hX
  refine JC_seq ?_
  refine JC_region ?_
  refine JL_1 rfl (op_assign rfl) ?_
  refine JL_nil ?_
  refine JQ_then (JC_seq ?_)
  refine JC_region ?_
  refine JL_1 rfl (op_move rfl) ?_
  refine JL_1 rfl (op_conv (Ev.rfl' rfl) rfl rfl convT) ?_
  refine JL_1 rfl (by exact op_shlU (k := _) ev64 (Ev.rfl' rfl) (by omega) idxT) ?_
  refine JL_1 rfl (by exact op_binU ev64 ev64 (sub_u64 _ _ _)) ?_
  refine JL_1 rfl (op_assign rfl) ?_
  refine JL_nil ?_
  refine JQ_then (JC_ret ?_)
  refine JQ_ret1 Tryz.results84 rfl () (SubL.eq ?_) (List.nil_sublist _)
  rfl
abbrev splitOK (l : BitVec 64) : Prop := incB (UV (l >>> 32)) = true
theorem splitOK_lease {l : BitVec 64} (h : splitOK l) : leaseV (UV (l >>> 32)) (UV (l &&& BitVec.ofInt 64 4294967295)) = (l, 0) := by
  unfold leaseV
  rw [if_pos h, if_pos (low32 l), lease_back]
theorem splitOK_of {l : BitVec 64} {u : Int} {b : Bool} (h : ((leaseV (UV (l >>> 32)) u).2 != 0 || b) = false) : splitOK l := by
  refine Classical.byContradiction fun hn => ?_
  unfold leaseV at h
  rw [if_neg hn] at h
  simp at h
theorem lease_zero : leaseV 0 0 = (0#64, 2) := by decide +kernel
-- word.SplitLease: function 55
theorem SplitLease_ok (l : BitVec 64) : FnP Tryz.prog 55 [Is (.int .u64 (UV l))] (IsTup [Is (.int .i64 (splitV l).1), Is (.int .i64 (splitV l).2.1), Is (.bool (splitV l).2.2)]) := by
  have hl := low32 l
  have hh := high32 l
  refine FnP.enter Tryz.func55 Tryz.ntmps55 rfl rfl ?_
  intro c hX
  refine JC_seq ?_
  refine JC_region ?_
  refine JL_1 rfl (op_assign rfl) ?_
  refine JL_1 rfl (op_assign rfl) ?_
  refine JL_1 rfl (op_assign rfl) ?_
  refine JL_nil ?_
  refine JQ_then (JC_seq (JC_seq ?_))
  refine JC_region ?_
  refine JL_1 rfl (op_move rfl) ?_
  refine JL_1 rfl (by exact op_shrU (k := 32) ev64 (Ev.rfl' rfl) (by omega) idxT) ?_
  refine JL_1 rfl (op_assign rfl) ?_
  refine JL_nil ?_
  refine JQ_then (JC_seq ?_)
  refine JC_region ?_
  refine JL_1 rfl (op_move rfl) ?_
  refine JL_1 rfl (op_leq (Ev.rfl' rfl) (Ev.rfl' rfl)) ?_
  refine JL_nil ?_
  refine JQ_then ?_
  refine JC_cond (Ev.rfl' rfl) (fun h2 => ?_) (fun h2 => ?_)
  · have gl : UV (l >>> 32) ≤ 59 := of_decide_eq_true h2
    clear h2
    have hx : ∃ a b, a = UV (l >>> 32) ∧ b = UV (l &&& BitVec.ofInt 64 4294967295) ∧ (leaseV a b).1 = (leaseV a b).1 := ⟨_, _, rfl, rfl, rfl⟩
    refine JC_region ?_
    refine JL_1 rfl (op_move rfl) ?_
    refine JL_1 rfl (op_conv (Ev.rfl' rfl) rfl rfl (wI64 (by omega))) ?_
    refine JL_1 rfl (op_move rfl) ?_
    refine JL_1 rfl (op_call Tryz.call84 (mask_ok) ⟨evS, trivial⟩) ?_
    refine JL_1 rfl (by exact op_bits ev64 ev64 (by simp) (and_u64 _ _)) ?_
    refine JL_1 rfl (op_conv (Ev.rfl' rfl) rfl rfl (wI64 (by omega))) ?_
    refine JL_1 rfl (op_assign rfl) ?_
    refine JL_1 rfl (op_assign rfl) ?_
    refine JL_nil ?_
    refine JQ_then (JC_seq (JC_seq ?_))
    refine JC_region ?_
    refine JL_1 rfl (op_move rfl) ?_
    refine JL_1 rfl (op_move rfl) ?_
    refine JL_1 rfl (op_call Tryz.call27 (Lease_ok _ _) ⟨evS, ⟨evS, trivial⟩⟩) ?_
    refine JL_1 rfl (op_move rfl) ?_
    refine JL_1 rfl (op_extract (Ev.rfl' rfl) rfl) ?_
    refine JL_1 rfl (op_extract (Ev.rfl' rfl) rfl) ?_
    refine JL_1 rfl (op_assign rfl) ?_
    refine JL_1 rfl (op_assign rfl) ?_
    refine JL_nil ?_
    refine JQ_then (JC_seq ?_)
    refine JC_region ?_
    refine JL_1 rfl (op_move rfl) ?_
    refine JL_1 rfl (op_neq (Ev.rfl' rfl) (Ev.rfl' rfl)) ?_
    refine JL_1 rfl (op_move rfl) ?_
    (refine JL_i0 rfl rfl rfl (fun hg => (by have hg0 := hg; (try simp at hg); exact op_moveE (Ev.rfl' rfl))) ?_)
    (refine JL_i0 rfl rfl rfl (fun hg => (by have hg0 := hg; (try simp at hg); exact op_moveE (Ev.rfl' rfl))) ?_)
    (refine JL_i0 rfl rfl rfl (fun hg => (by have hg0 := hg; (try simp at hg); exact op_neq evG evG)) ?_)
    refine JL_1 rfl (op_or (Ev.rfl' rfl) rfl (fun h => by exact SubL.iteT (by (rw [h]; rfl)) SubL.rfl')) ?_
    refine JL_nil ?_
    refine JQ_then ?_
    refine JC_cond (Ev.rfl' rfl) (fun h5 => ?_) (fun h5 => ?_)
    · have g : ¬ splitOK l := fun hk => by
        first
          | (have := hx
             rw [splitOK_lease hk] at h5
             simp at h5)
          | (have := inc_rng hk; omega)
      have e : splitV l = (0, 0, false) := by unfold splitV; rw [if_neg g]
      rw [e]
      refine JC_seq ?_
      refine JC_region ?_
      refine JL_1 rfl (op_assign rfl) ?_
      refine JL_1 rfl (op_assign rfl) ?_
      refine JL_1 rfl (op_assign rfl) ?_
      refine JL_nil ?_
      refine JQ_then (JC_ret (JQ_then_ret ?_))
      exact JQ_ret (Bs := [Is (.int .i64 0), Is (.int .i64 0), Is (.bool false)]) Tryz.results55 ⟨⟨_, rfl, subT⟩, ⟨⟨_, rfl, subT⟩, ⟨⟨_, rfl, subT⟩, trivial⟩⟩⟩ () SubL.rfl' (List.nil_sublist _)
    have g : splitOK l := by
      first
        | (have := hx
           exact splitOK_of h5)
        | (exfalso; rw [lease_zero] at h5; simp at h5)
    have e : splitV l = (UV (l >>> 32), UV (l &&& BitVec.ofInt 64 4294967295), true) := by unfold splitV; rw [if_pos g]
    rw [e]
    clear h5
    refine JC_skip (JQ_then (JC_seq ?_))
    refine JC_region ?_
    refine JL_1 rfl (op_move rfl) ?_
    refine JL_1 rfl (op_move rfl) ?_
    refine JL_1 rfl (op_assign rfl) ?_
    refine JL_1 rfl (op_assign rfl) ?_
    refine JL_1 rfl (op_assign rfl) ?_
    refine JL_nil ?_
    refine JQ_then (JC_ret ?_)
    first
      | (have := hx; exact JQ_ret (Bs := [Is (.int .i64 (UV (l >>> 32))), Is (.int .i64 (UV (l &&& BitVec.ofInt 64 4294967295))), Is (.bool true)]) Tryz.results55 ⟨⟨_, rfl, subT⟩, ⟨⟨_, rfl, subT⟩, ⟨⟨_, rfl, subT⟩, trivial⟩⟩⟩ () SubL.rfl' (List.nil_sublist _))
      | (exfalso; have := inc_rng g; omega)
  have gn : ¬ UV (l >>> 32) ≤ 59 := of_decide_eq_false h2
  clear h2
  refine JC_skip (JQ_then (JC_seq (JC_seq ?_)))
  refine JC_region ?_
  refine JL_1 rfl (op_move rfl) ?_
  refine JL_1 rfl (op_move rfl) ?_
  refine JL_1 rfl (op_call Tryz.call27 (Lease_ok _ _) ⟨evS, ⟨evS, trivial⟩⟩) ?_
  refine JL_1 rfl (op_move rfl) ?_
  refine JL_1 rfl (op_extract (Ev.rfl' rfl) rfl) ?_
  refine JL_1 rfl (op_extract (Ev.rfl' rfl) rfl) ?_
  refine JL_1 rfl (op_assign rfl) ?_
  refine JL_1 rfl (op_assign rfl) ?_
  refine JL_nil ?_
  refine JQ_then (JC_seq ?_)
  refine JC_region ?_
  refine JL_1 rfl (op_move rfl) ?_
  refine JL_1 rfl (op_neq (Ev.rfl' rfl) (Ev.rfl' rfl)) ?_
  refine JL_1 rfl (op_move rfl) ?_
  (refine JL_i0 rfl rfl rfl (fun hg => (by have hg0 := hg; (try simp at hg); exact op_moveE (Ev.rfl' rfl))) ?_)
  (refine JL_i0 rfl rfl rfl (fun hg => (by have hg0 := hg; (try simp at hg); exact op_moveE (Ev.rfl' rfl))) ?_)
  (refine JL_i0 rfl rfl rfl (fun hg => (by have hg0 := hg; (try simp at hg); exact op_neq evG evG)) ?_)
  refine JL_1 rfl (op_or (Ev.rfl' rfl) rfl (fun h => by exact SubL.iteT (by (rw [h]; rfl)) SubL.rfl')) ?_
  refine JL_nil ?_
  refine JQ_then ?_
  refine JC_cond (Ev.rfl' rfl) (fun h5 => ?_) (fun h5 => ?_)
  · have g : ¬ splitOK l := fun hk => by
      first
        | (have := hx
           rw [splitOK_lease hk] at h5
           simp at h5)
        | (have := inc_rng hk; omega)
    have e : splitV l = (0, 0, false) := by unfold splitV; rw [if_neg g]
    rw [e]
    refine JC_seq ?_
    refine JC_region ?_
    refine JL_1 rfl (op_assign rfl) ?_
    refine JL_1 rfl (op_assign rfl) ?_
    refine JL_1 rfl (op_assign rfl) ?_
    refine JL_nil ?_
    refine JQ_then (JC_ret (JQ_then_ret ?_))
    exact JQ_ret (Bs := [Is (.int .i64 0), Is (.int .i64 0), Is (.bool false)]) Tryz.results55 ⟨⟨_, rfl, subT⟩, ⟨⟨_, rfl, subT⟩, ⟨⟨_, rfl, subT⟩, trivial⟩⟩⟩ () SubL.rfl' (List.nil_sublist _)
  have g : splitOK l := by
    first
      | (have := hx
         exact splitOK_of h5)
      | (exfalso; rw [lease_zero] at h5; simp at h5)
  have e : splitV l = (UV (l >>> 32), UV (l &&& BitVec.ofInt 64 4294967295), true) := by unfold splitV; rw [if_pos g]
  rw [e]
  clear h5
  refine JC_skip (JQ_then (JC_seq ?_))
  refine JC_region ?_
  refine JL_1 rfl (op_move rfl) ?_
  refine JL_1 rfl (op_move rfl) ?_
  refine JL_1 rfl (op_assign rfl) ?_
  refine JL_1 rfl (op_assign rfl) ?_
  refine JL_1 rfl (op_assign rfl) ?_
  refine JL_nil ?_
  refine JQ_then (JC_ret ?_)
  first
    | (have := hx; exact JQ_ret (Bs := [Is (.int .i64 (UV (l >>> 32))), Is (.int .i64 (UV (l &&& BitVec.ofInt 64 4294967295))), Is (.bool true)]) Tryz.results55 ⟨⟨_, rfl, subT⟩, ⟨⟨_, rfl, subT⟩, ⟨⟨_, rfl, subT⟩, trivial⟩⟩⟩ () SubL.rfl' (List.nil_sublist _))
    | (exfalso; have := inc_rng g; omega)
end Go.Proofs.YtfglhiciagmicaaGreat

/- A stretch of a drawn region in which some read memory, others write it later, and others again touch none: each pair of which one writes stands in an order; all else comes up as it may. Own work. -/
namespace Go.Proofs.YtfglhiciagmicaaGreat
open Go.RowKit
set_option linter.unusedVariables false
set_option linter.unusedSimpArgs false
section
variable {P : Program} {ops : Array Oper} {c : Ctx} {N : Nat}
/-- One operation: kind 0 touches no memory, 1 reads it, 2 writes it. -/
structure EP where
  i : Nat
  o : Oper
  F : VP
  kd : Nat
  M' : List Item
def EP.ok (P : Program) (c : Ctx) (x : EP) (A : Nat → Option VP) (M : List Item) : Prop :=
  x.o.guard = none ∧ ((x.kd = 0 ∧ OpP P c x.o A [] x.F) ∨ (x.kd = 1 ∧ OpP P c x.o A M x.F) ∨ (x.kd = 2 ∧ OpS P c x.o A M (fun _ : Unit => x.F) (fun _ => x.M')) ∨ (x.kd = 1 ∧ OpS P c x.o A M (fun _ : Unit => x.F) (fun _ => M)))
def accV (p : Nat → Bool) : List EP → (Nat → Option VP) → Nat → Option VP
  | [], A => A
  | x :: l, A => accV p l (bif p x.i then putA A x.o.dst x.F else A)
def accM (p : Nat → Bool) : List EP → List Item → List Item
  | [], M => M
  | x :: l, M => accM p l (bif p x.i && Nat.beq x.kd 2 then x.M' else M)
theorem putA_ne {A : Nat → Option VP} {d : Option Tmp} {B : VP} {t : Nat} (h : d ≠ some t) : putA A d B t = A t := by unfold putA; rw [if_neg h]
theorem putA_eq {A : Nat → Option VP} {B : VP} {t : Nat} : putA A (some t) B t = some B := by unfold putA; rw [if_pos rfl]
theorem accV_congr {p q : Nat → Bool} {t : Nat} {l : List EP} : ∀ {A B : Nat → Option VP}, A t = B t → (∀ x, x ∈ l → x.o.dst = some t → p x.i = q x.i) → accV p l A t = accV q l B t := by
  induction l with
  | nil => intro A B h _; exact h
  | cons y l ih =>
    intro A B h hl
    show accV p l (bif p y.i then putA A y.o.dst y.F else A) t = accV q l (bif q y.i then putA B y.o.dst y.F else B) t
    refine ih ?_ fun x hx => hl x (List.mem_cons_of_mem _ hx)
    by_cases hd : y.o.dst = some t
    · rw [hl y (List.mem_cons_self ..) hd, hd]
      cases q y.i
      · exact h
      · simp only [cond_true]; rw [putA_eq, putA_eq]
    · have e1 : (bif p y.i then putA A y.o.dst y.F else A) t = A t := by cases p y.i <;> simp [putA_ne hd]
      have e2 : (bif q y.i then putA B y.o.dst y.F else B) t = B t := by cases q y.i <;> simp [putA_ne hd]
      rw [e1, e2]; exact h
theorem accV_append (p : Nat → Bool) : ∀ (l l' : List EP) (A : Nat → Option VP), accV p (l ++ l') A = accV p l' (accV p l A)
  | [], _, _ => rfl
  | x :: l, l', A => by simp only [List.cons_append, accV, accV_append p l l']
theorem accV_none (l : List EP) (A : Nat → Option VP) : accV (fun _ => false) l A = A := by
  induction l generalizing A with
  | nil => rfl
  | cons x l ih => exact ih A
theorem accV_skip {p : Nat → Bool} {t : Nat} {l : List EP} {A : Nat → Option VP} (h : ∀ x, x ∈ l → x.o.dst = some t → p x.i = false) : accV p l A t = A t := by
  rw [accV_congr (q := fun _ => false) (A := A) (B := A) rfl h, accV_none]
theorem accM_congr {p q : Nat → Bool} {l : List EP} : ∀ {M : List Item}, (∀ x, x ∈ l → x.kd = 2 → p x.i = q x.i) → accM p l M = accM q l M := by
  induction l with
  | nil => intro M _; rfl
  | cons y l ih =>
    intro M hl
    show accM p l (bif p y.i && Nat.beq y.kd 2 then y.M' else M) = accM q l (bif q y.i && Nat.beq y.kd 2 then y.M' else M)
    by_cases h2 : y.kd = 2
    · rw [hl y (List.mem_cons_self ..) h2]; exact ih fun x hx => hl x (List.mem_cons_of_mem _ hx)
    · have hb : Nat.beq y.kd 2 = false := beq_ff h2
      rw [hb, Bool.and_false, Bool.and_false]; exact ih fun x hx => hl x (List.mem_cons_of_mem _ hx)
theorem accM_append (p : Nat → Bool) : ∀ (l l' : List EP) (M : List Item), accM p (l ++ l') M = accM p l' (accM p l M)
  | [], _, _ => rfl
  | x :: l, l', M => by simp only [List.cons_append, accM, accM_append p l l']
theorem accM_none (l : List EP) (M : List Item) : accM (fun _ => false) l M = M := by
  induction l generalizing M with
  | nil => rfl
  | cons x l ih => exact ih M
theorem accM_skip {p : Nat → Bool} {l : List EP} {M : List Item} (h : ∀ x, x ∈ l → x.kd = 2 → p x.i = false) : accM p l M = M := by
  rw [accM_congr (q := fun _ => false) h, accM_none]
theorem St.congr {A B : Nat → Option VP} {L L' : List Item} {φ : Fz} {a : Act} {w : World} (h : St c N A L φ a w) (e : ∀ t, A t = B t) (e' : L = L') : St c N B L' φ a w := by
  have : A = B := funext e
  subst this; subst e'; exact h
theorem phases {Q : Exit → Act → World → Prop} {nd : List Nat} (hg : Good ops nd) (hN : opsAll (fun _ o => dstB N o.dst) ops.toList 0 = true) {k n : Nat} (hS : stretchB nd ops.size k n = true) (hkn : k + n ≤ ops.size)
    {m : List EP} {A0 : Nat → Option VP} {M0 : List Item} (hm : m.length = n) (hmi : ∀ i x, m[i]? = some x → x.i = k + i ∧ ops[k + i]? = some x.o)
    (hop : ∀ m1 x m2, m = m1 ++ x :: m2 → x.ok P c (accV (fun _ => true) m1 A0) (accM (fun _ => true) m1 M0))
    (hph : ∀ x y, x ∈ m → y ∈ m → x.i < y.i → (x.kd = 2 ∧ y.kd ≠ 0 ∨ x.kd ≠ 0 ∧ y.kd = 2) → (ndOf nd y.i).testBit x.i = true)
    (next : ∀ φ a w listed, Pre ops nd (k + n) listed → St c N (accV (fun _ => true) m A0) (accM (fun _ => true) m M0) φ a w → wpAny P .any ops Q (unl ops.size listed) listed a w) :
    ∀ (u : Nat) (φ : Fz) (a : Act) (w : World) (listed : Array Bool), unl ops.size listed = u → Cl ops nd listed → (∀ i, i < k → listed.getD i true = true) → (∀ i, k + n ≤ i → i < ops.size → listed.getD i true = false) →
      St c N (accV (fun i => listed.getD i false) m A0) (accM (fun i => listed.getD i false) m M0) φ a w → wpAny P .any ops Q u listed a w := by
  intro u
  induction u with
  | zero =>
    intro φ a w listed hu hc hlo hhi st
    have hall := unl_zero hu
    have hk : k + n = ops.size := by
      rcases Nat.lt_or_ge (k + n) ops.size with h | h
      · have h1 := hall _ h; have h2 := hhi (k + n) (Nat.le_refl _) h; rw [h1] at h2; cases h2
      · omega
    have hall2 : ∀ x, x ∈ m → listed.getD x.i false = true := fun x hx => by
      obtain ⟨i, hi⟩ := List.mem_iff_getElem?.1 hx
      obtain ⟨e1, e2⟩ := hmi i x hi
      have hlt : k + i < ops.size := (Array.getElem?_eq_some_iff.1 e2).1
      have h1 := hall _ hlt
      have h2 : k + i < listed.size := by rw [hc.size]; exact hlt
      rw [e1]
      simp [h2] at h1 ⊢; exact h1
    rw [← hu]
    exact next φ a w listed ⟨hc, fun i hi => ⟨fun _ => by omega, fun _ => hall i hi⟩⟩ (st.congr (fun t => accV_congr rfl fun x hx _ => hall2 x hx) (accM_congr fun x hx _ => hall2 x hx))
  | succ u ih =>
    intro φ a w listed hu hc hlo hhi st
    by_cases hdone : ∃ i, i < k + n ∧ listed.getD i true = false
    · obtain ⟨i0, hi0, hu0, hl0⟩ := exists_least_unl _ hdone
      have hr0 := ready_least hg hc.size (by omega) hu0 hl0
      refine ⟨fun h => (by rw [h] at hr0; cases hr0), fun i hi => ?_⟩
      obtain ⟨hiu, oi, hoi, hiall⟩ := mem_ready.1 hi
      have hilt : i < ops.size := (Array.getElem?_eq_some_iff.1 hoi).1
      have hik : k ≤ i := by
        rcases Nat.lt_or_ge i k with h | h
        · have := hlo i h; rw [hiu] at this; cases this
        · exact h
      have hin : i < k + n := by
        rcases Nat.lt_or_ge i (k + n) with h | h
        · exact h
        · exfalso
          have hi0k : k ≤ i0 := by
            rcases Nat.lt_or_ge i0 k with h' | h'
            · have := hlo i0 h'; rw [hu0] at this; cases this
            · exact h'
          have h1 := List.all_eq_true.1 hS (i0 - k) (List.mem_range.2 (by omega))
          have h2 := List.all_eq_true.1 h1 i (List.mem_range.2 hilt)
          have h3 : Nat.blt i (k + n) = false := blt_ff (by omega)
          rw [h3, Bool.false_or, show k + (i0 - k) = i0 by omega] at h2
          have h4 := ready_need hg hc hi h2
          rw [getD_tf hu0] at h4; cases h4
      have hp : (i - k) < m.length := by omega
      obtain ⟨x, hx⟩ : ∃ x, m[i - k]? = some x := ⟨m[i - k], by simp [hp]⟩
      obtain ⟨ex1, ex2⟩ := hmi (i - k) x hx
      rw [show k + (i - k) = i by omega] at ex1 ex2
      have hox : x.o = oi := Option.some.inj (ex2.symm.trans hoi)
      obtain ⟨m1, m2, hsplit, hm1⟩ : ∃ m1 m2, m = m1 ++ x :: m2 ∧ m1.length = i - k := by
        refine ⟨m.take (i - k), m.drop (i - k + 1), ?_, by simp; omega⟩
        have h1 : m.drop (i - k) = x :: m.drop (i - k + 1) := by
          rw [List.drop_eq_getElem_cons hp]
          congr 1
          rw [List.getElem?_eq_getElem hp] at hx
          exact Option.some.inj hx
        rw [← h1, List.take_append_drop]
      have idx1 : ∀ y, y ∈ m1 → y.i < i ∧ ops[y.i]? = some y.o := fun y hy => by
        obtain ⟨q, hq⟩ := List.mem_iff_getElem?.1 hy
        have hql : q < m1.length := (List.getElem?_eq_some_iff.1 hq).1
        have hq' : m[q]? = some y := by rw [hsplit, List.getElem?_append_left hql]; exact hq
        obtain ⟨e1, e2⟩ := hmi q y hq'
        exact ⟨by omega, by rw [e1]; exact e2⟩
      have idx2 : ∀ y, y ∈ m2 → i < y.i ∧ ops[y.i]? = some y.o := fun y hy => by
        obtain ⟨q, hq⟩ := List.mem_iff_getElem?.1 hy
        have hq' : m[m1.length + 1 + q]? = some y := by
          rw [hsplit, List.getElem?_append_right (by omega), show m1.length + 1 + q - m1.length = q + 1 by omega]
          simpa using hq
        obtain ⟨e1, e2⟩ := hmi _ y hq'
        exact ⟨by omega, by rw [e1]; exact e2⟩
      have hiL : i < listed.size := by rw [hc.size]; exact hilt
      have hxm : x ∈ m := by rw [hsplit]; exact List.mem_append_right _ (List.mem_cons_self ..)
      have in1 : ∀ y, y ∈ m1 → y ∈ m := fun y hy => by rw [hsplit]; exact List.mem_append_left _ hy
      have in2 : ∀ y, y ∈ m2 → y ∈ m := fun y hy => by rw [hsplit]; exact List.mem_append_right _ (List.mem_cons_of_mem _ hy)
      -- what needs i has not come up, what i needs has
      have notyet : ∀ j, (ndOf nd j).testBit i = true → listed.getD j false = false := fun j hj => by
        cases hv : listed.getD j false with
        | false => rfl
        | true => have h4 := hc.cl _ hv i hj; rw [getD_tf hiu] at h4; cases h4
      have earlier : ∀ y t, y ∈ m1 → y.o.dst = some t → t ∈ namesOf ops oi → listed.getD y.i false = true := fun y t hy ht htn => by
        obtain ⟨h1, h2⟩ := idx1 y hy
        exact ready_need hg hc hi ((hg.ord y.i y.o t i oi h2 ht hoi htn (by omega)).1 h1)
      have later : ∀ y t, y ∈ m2 → y.o.dst = some t → t ∈ namesOf ops oi → listed.getD y.i false = false := fun y t hy ht htn => by
        obtain ⟨h1, h2⟩ := idx2 y hy
        exact notyet _ ((hg.ord y.i y.o t i oi h2 ht hoi htn (by omega)).2 h1)
      have hsame : ∀ t, t ∈ oi.looksAt ops → accV (fun i => listed.getD i false) m A0 t = accV (fun _ => true) m1 A0 t := fun t ht => by
        have htn : t ∈ namesOf ops oi := List.mem_append_left _ ht
        rw [hsplit, accV_append]
        have h1 : accV (fun i => listed.getD i false) (x :: m2) (accV (fun i => listed.getD i false) m1 A0) t = accV (fun i => listed.getD i false) m1 A0 t := by
          refine accV_skip fun y hy hyt => ?_
          rcases List.mem_cons.1 hy with rfl | hy
          · show listed.getD y.i false = false
            rw [ex1]; exact getD_tf hiu
          · exact later y t hy hyt htn
        rw [h1]
        exact accV_congr rfl fun y hy hyt => earlier y t hy hyt htn
      have hget : ∀ j, j ≠ i → (listed.setIfInBounds i true).getD j false = listed.getD j false := fun j hj => getD_set_ne false (Ne.symm hj)
      have hiT : (listed.setIfInBounds i true).getD i false = true := by simp [hiL]
      have hxy : ∀ y, y ∈ m → y.i = i → y = x := fun y hy hyi => by
        obtain ⟨q, hq⟩ := List.mem_iff_getElem?.1 hy
        obtain ⟨e1, e2⟩ := hmi q y hq
        have hqi : q = i - k := by omega
        rw [hqi, hx] at hq
        exact (Option.some.inj hq).symm
      have hacc : ∀ t, putA (accV (fun i => listed.getD i false) m A0) oi.dst x.F t = accV (fun j => (listed.setIfInBounds i true).getD j false) m A0 t := fun t => by
        by_cases hd : oi.dst = some t
        · rw [hd, putA_eq, hsplit, accV_append]
          simp only [accV]
          rw [ex1, hiT]
          simp only [cond_true]
          have hnm : t ∈ namesOf ops oi := by unfold namesOf; rw [hd]; simp
          rw [accV_skip fun y hy hyt => by
            obtain ⟨h1, _⟩ := idx2 y hy
            rw [hget y.i (by omega)]
            exact later y t hy hyt hnm]
          rw [hox, hd, putA_eq]
        · rw [putA_ne hd]
          refine accV_congr rfl fun y hy hyt => (hget y.i fun hyi => ?_).symm
          rw [hxy y hy hyi, hox] at hyt
          exact hd hyt
      have hmem1 : x.kd ≠ 2 → accM (fun j => (listed.setIfInBounds i true).getD j false) m M0 = accM (fun j => listed.getD j false) m M0 := fun h2 => accM_congr fun y hy hy2 => hget y.i fun hyi => by rw [hxy y hy hyi] at hy2; exact h2 hy2
      have hmemR : x.kd ≠ 0 → accM (fun j => listed.getD j false) m M0 = accM (fun _ => true) m1 M0 := fun h0 => by
        rw [hsplit, accM_append]
        rw [accM_skip (l := x :: m2) fun y hy hy2 => by
          rcases List.mem_cons.1 hy with rfl | hy
          · show listed.getD y.i false = false
            rw [ex1]; exact getD_tf hiu
          · obtain ⟨h1, _⟩ := idx2 y hy
            refine notyet _ ?_
            have := hph x y hxm (in2 y hy) (by omega) (.inr ⟨h0, hy2⟩)
            rw [ex1] at this; exact this]
        refine accM_congr fun y hy hy2 => ?_
        obtain ⟨h1, _⟩ := idx1 y hy
        refine ready_need hg hc hi ?_
        have := hph y x (in1 y hy) hxm (by omega) (.inl ⟨hy2, h0⟩)
        rw [ex1] at this; exact this
      have hmemW : x.kd = 2 → accM (fun j => (listed.setIfInBounds i true).getD j false) m M0 = x.M' := fun h2 => by
        rw [hsplit, accM_append]
        simp only [accM]
        rw [ex1, hiT, h2]
        have hb : Nat.beq 2 2 = true := rfl
        simp only [hb, Bool.and_self, cond_true]
        refine accM_skip fun y hy hy2 => ?_
        obtain ⟨h1, _⟩ := idx2 y hy
        rw [hget y.i (by omega)]
        refine notyet _ ?_
        have := hph x y hxm (in2 y hy) (by omega) (.inl ⟨h2, by rw [hy2]; omega⟩)
        rw [ex1] at this; exact this
      have hunl : unl ops.size (listed.setIfInBounds i true) = u := by
        have := unl_set hiL hiu hilt; omega
      have hdN : dstB N oi.dst = true := by
        have := opsAll_spec hN i oi (by simpa using hoi)
        exact this
      have hnext : ∀ φ' v w' M', Fle φ φ' → x.F.ok φ' v → HP c φ' M' w' → M' = accM (fun j => (listed.setIfInBounds i true).getD j false) m M0 → wpAny P .any ops Q u (listed.setIfInBounds i true) (a.put oi.dst v) w' := fun φ' v w' M' hle hv hh hM => by
        have h9 := (st.put (dstB_spec hdN) hle hv hh).congr hacc hM
        refine ih φ' _ w' _ hunl (hc.set hg hi) (fun j hj => ?_) (fun j hj hj' => ?_) h9
        · rw [getD_set_ne true (by omega)]; exact hlo j hj
        · rw [getD_set_ne true (by omega)]; exact hhi j hj hj'
      obtain ⟨hgd, hrule⟩ := hop m1 x m2 hsplit
      rw [hox] at hgd
      have hev : ∀ (L : List Item), Facts φ L → ∀ z, z ∈ oi.op.operands → ∀ B, Ev (accV (fun _ => true) m1 A0) L z B → B.ok φ (a.eval z) := fun L hF z hz B hB => by
        refine ev_of (A := accV (fun _ => true) m1 A0) hF (fun t ht D hD => ?_) hB
        subst ht
        exact st.env t D (by rw [hsame t (mem_looks hz)]; exact hD)
      unfold wpOp
      simp only [hoi]
      rw [if_pos (by simp [Region.wanted, hgd])]
      refine .inl ?_
      rcases hrule with ⟨h0, hr⟩ | ⟨h1, hr⟩ | ⟨h2, hr⟩ | ⟨h1, hr⟩
      · rw [hox] at hr
        have hm0 : HP c φ [] w := st.mem.lessP (SubP.nil _)
        refine hr φ a w _ Q hm0 (hev [] hm0.mem.facts) fun φ' v w' hp hF => ?_
        exact hnext φ' v w' _ (hp.fle hm0.mem.base) hF (by simpa using st.mem.new hp) (hmem1 (by omega)).symm
      · rw [hox] at hr
        have hmi : HP c φ (accM (fun _ => true) m1 M0) w := by rw [← hmemR (by omega)]; exact st.mem
        refine hr φ a w _ Q hmi (hev _ hmi.mem.facts) fun φ' v w' hp hF => ?_
        exact hnext φ' v w' _ (hp.fle hmi.mem.base) hF (by simpa using st.mem.new hp) (hmem1 (by omega)).symm
      · rw [hox] at hr
        have hmi : HP c φ (accM (fun _ => true) m1 M0) w := by rw [← hmemR (by omega)]; exact st.mem
        exact hr φ a w _ Q hmi (hev _ hmi.mem.facts) fun _ φ' v w' hle hF hh => hnext φ' v w' _ hle hF hh (hmemW h2).symm
      · rw [hox] at hr
        have hmi : HP c φ (accM (fun _ => true) m1 M0) w := by rw [← hmemR (by omega)]; exact st.mem
        exact hr φ a w _ Q hmi (hev _ hmi.mem.facts) fun _ φ' v w' hle hF hh => hnext φ' v w' _ hle hF hh ((hmemR (by omega)).symm.trans (hmem1 (by omega)).symm)
    · have hall : ∀ i, i < k + n → listed.getD i true = true := fun i hi => by
        cases hv : listed.getD i true with
        | true => rfl
        | false => exact absurd ⟨i, hi, hv⟩ hdone
      have hall2 : ∀ x, x ∈ m → listed.getD x.i false = true := fun x hx => by
        obtain ⟨i, hi⟩ := List.mem_iff_getElem?.1 hx
        obtain ⟨e1, e2⟩ := hmi i x hi
        have hlt : k + i < ops.size := (Array.getElem?_eq_some_iff.1 e2).1
        have hil : i < m.length := (List.getElem?_eq_some_iff.1 hi).1
        have h1 := hall (k + i) (by omega)
        have h2 : k + i < listed.size := by rw [hc.size]; exact hlt
        rw [e1]
        simp [h2] at h1 ⊢; exact h1
      rw [← hu]
      refine next φ a w listed ⟨hc, fun i hi => ⟨fun h => ?_, fun h => hall i h⟩⟩ (st.congr (fun t => accV_congr rfl fun x hx _ => hall2 x hx) (accM_congr fun x hx _ => hall2 x hx))
      rcases Nat.lt_or_ge i (k + n) with h' | h'
      · exact h'
      · have := hhi i h' hi; rw [h] at this; cases this
/-! ### The walk -/
/-- Pairs of which one writes stand in an order. -/
def phaseB (nd : List Nat) (k : Nat) (ks : List Nat) : Bool := (List.range ks.length).all fun j => (List.range j).all fun i =>
  let a := ks.getD i 0
  let b := ks.getD j 0
  !(Nat.beq a 2 && !Nat.beq b 0 || !Nat.beq a 0 && Nat.beq b 2) || (ndOf nd (k + j)).testBit (k + i)
def PW (P : Program) (ops : Array Oper) (Q : Exit → Act → World → Prop) (c : Ctx) (N : Nat) (nd : List Nat) : List Nat → Nat → List Oper → Env → List Item → Prop
  | [], k, rest, E, L => JD P ops Q c N nd k rest E L
  | kd :: ks, k, o :: rest, E, L => ∃ F M', (⟨k, o, F, kd, M'⟩ : EP).ok P c (look E) L ∧ PW P ops Q c N nd ks (k + 1) rest (putE E o.dst F) (if kd = 2 then M' else L)
  | _ :: _, _, [], _, _ => False
theorem PW.out {Q : Exit → Act → World → Prop} {nd : List Nat} : ∀ {ks : List Nat} {k : Nat} {rest : List Oper} {E : Env} {L : List Item}, PW P ops Q c N nd ks k rest E L →
    ∃ (m : List EP) (rest' : List Oper) (E' : Env), m.length = ks.length ∧ rest.length = ks.length + rest'.length ∧ (∀ i, rest'[i]? = rest[ks.length + i]?) ∧ (∀ i x, m[i]? = some x → x.i = k + i ∧ rest[i]? = some x.o ∧ ks[i]? = some x.kd) ∧
      (∀ m1 x m2, m = m1 ++ x :: m2 → x.ok P c (accV (fun _ => true) m1 (look E)) (accM (fun _ => true) m1 L)) ∧ look E' = accV (fun _ => true) m (look E) ∧ JD P ops Q c N nd (k + ks.length) rest' E' (accM (fun _ => true) m L)
  | [], k, rest, E, L, h => ⟨[], rest, E, rfl, by simp, fun i => by simp, fun i x hx => by simp at hx, fun m1 x m2 hm => by simp at hm, rfl, h⟩
  | kd :: ks, k, [], E, L, h => h.elim
  | kd :: ks, k, o :: rest, E, L, ⟨F, M', h1, h2⟩ => by
    obtain ⟨m, rest', E', e1, e2, e3, e4, e5, e6, e7⟩ := PW.out h2
    have hv : putA (look E) o.dst F = look (putE E o.dst F) := (look_putE E o.dst F).symm
    have hM : (bif true && Nat.beq kd 2 then M' else L) = (if kd = 2 then M' else L) := by
      by_cases h : kd = 2
      · subst h; rfl
      · rw [if_neg h, beq_ff h]; rfl
    refine ⟨⟨k, o, F, kd, M'⟩ :: m, rest', E', by simp [e1], by simp only [List.length_cons]; omega, fun i => ?_, fun i x hx => ?_, fun m1 x m2 hm => ?_, ?_, ?_⟩
    · rw [e3, List.length_cons, show ks.length + 1 + i = ks.length + i + 1 by omega, List.getElem?_cons_succ]
    · cases i with
      | zero => simp at hx; subst hx; exact ⟨rfl, rfl, rfl⟩
      | succ i =>
        obtain ⟨h3, h4, h5⟩ := e4 i x (by simpa using hx)
        exact ⟨by omega, by simpa using h4, by simpa using h5⟩
    · cases m1 with
      | nil =>
        simp only [List.nil_append, List.cons.injEq] at hm
        obtain ⟨rfl, rfl⟩ := hm
        exact h1
      | cons y m1 =>
        simp only [List.cons_append, List.cons.injEq] at hm
        obtain ⟨rfl, hm⟩ := hm
        have := e5 m1 x m2 hm
        rw [← hv, ← hM] at this
        exact this
    · rw [e6, ← hv]; rfl
    · rw [← hM] at e7
      rw [List.length_cons, show k + (ks.length + 1) = k + 1 + ks.length by omega]
      exact e7
theorem JD_phase {Q : Exit → Act → World → Prop} {nd : List Nat} {k : Nat} {rest : List Oper} {E : Env} {L : List Item} (ks : List Nat) (hS : stretchB nd ops.size k ks.length = true) (hB : phaseB nd k ks = true) (h : PW P ops Q c N nd ks k rest E L) : JD P ops Q c N nd k rest E L := by
  intro hg hN hk hrest φ a w listed hp st
  obtain ⟨m, rest', E', e1, e2, e3, e4, e5, e6, e7⟩ := PW.out h
  have hmi : ∀ i x, m[i]? = some x → x.i = k + i ∧ ops[k + i]? = some x.o := fun i x hx => by
    obtain ⟨h1, h2, _⟩ := e4 i x hx
    exact ⟨h1, by rw [← hrest]; exact h2⟩
  have hnone : ∀ x, x ∈ m → listed.getD x.i false = false := fun x hx => by
    obtain ⟨i, hi⟩ := List.mem_iff_getElem?.1 hx
    obtain ⟨h1, h2⟩ := hmi i x hi
    have hlt : k + i < ops.size := (Array.getElem?_eq_some_iff.1 h2).1
    rw [h1]
    cases hv : listed.getD (k + i) false with
    | false => rfl
    | true =>
      have : listed.getD (k + i) true = true := by
        cases hv2 : listed.getD (k + i) true with
        | true => rfl
        | false => rw [getD_tf hv2] at hv; cases hv
      have := (hp.pre _ hlt).1 this
      omega
  refine phases (Q := Q) hg hN hS (by omega) e1 hmi e5 (fun x y hx hy hlt hcf => ?_) ?_ _ φ a w listed rfl hp.cl (fun i hi => ?_) (fun i hi hi' => ?_) (st.congr (fun t => ?_) ?_)
  · obtain ⟨i, hi⟩ := List.mem_iff_getElem?.1 hx
    obtain ⟨j, hj⟩ := List.mem_iff_getElem?.1 hy
    obtain ⟨x1, _, x3⟩ := e4 i x hi
    obtain ⟨y1, _, y3⟩ := e4 j y hj
    have hjl : j < ks.length := by rw [← e1]; exact (List.getElem?_eq_some_iff.1 hj).1
    have h1 := List.all_eq_true.1 (List.all_eq_true.1 hB j (List.mem_range.2 hjl)) i (List.mem_range.2 (by omega))
    have ga : ks.getD i 0 = x.kd := by rw [List.getD_eq_getElem?_getD, x3]; rfl
    have gb : ks.getD j 0 = y.kd := by rw [List.getD_eq_getElem?_getD, y3]; rfl
    dsimp only at h1
    rw [ga, gb] at h1
    rw [x1, y1]
    have hc : (Nat.beq x.kd 2 && !Nat.beq y.kd 0 || !Nat.beq x.kd 0 && Nat.beq y.kd 2) = true := by
      rcases hcf with ⟨h2, h3⟩ | ⟨h2, h3⟩
      · rw [h2, beq_ff h3]; rfl
      · rw [h3, beq_ff h2]; simp
    rw [hc] at h1
    simpa using h1
  · intro φ' a' w' listed' hp' st'
    refine e7 hg hN (by omega) (fun i => ?_) φ' a' w' listed' hp' (st'.congr (fun t => by rw [e6]) rfl)
    rw [e3, hrest]; congr 1; omega
  · cases hil : decide (i < ops.size) with
    | true => exact (hp.pre i (of_decide_eq_true hil)).2 hi
    | false =>
      have : ¬ i < ops.size := of_decide_eq_false hil
      omega
  · cases hv : listed.getD i true with
    | false => rfl
    | true => have := (hp.pre i hi').1 hv; omega
  · rw [accV_congr (q := fun _ => false) (A := look E) (B := look E) rfl (fun x hx _ => hnone x hx), accV_none]
  · rw [accM_congr (q := fun _ => false) (fun x hx _ => hnone x hx), accM_none]
section
variable {Q : Exit → Act → World → Prop} {nd ks : List Nat} {k : Nat} {rest : List Oper} {E : Env} {L : List Item} {t : Tmp} {op : Op} {ty : TypeId} {pos : String} {af : Array Edge}
/-- No memory. -/
theorem PW_0 {F : VP} (hs : OpP P c ⟨some t, op, ty, pos, af, none⟩ (look E) [] F) (h : PW P ops Q c N nd ks (k + 1) rest ((t, F) :: E) L) : PW P ops Q c N nd (0 :: ks) k (⟨some t, op, ty, pos, af, none⟩ :: rest) E L := ⟨F, [], ⟨rfl, .inl ⟨rfl, hs⟩⟩, h⟩
/-- Memory is read. -/
theorem PW_1 {F : VP} (hs : OpP P c ⟨some t, op, ty, pos, af, none⟩ (look E) L F) (h : PW P ops Q c N nd ks (k + 1) rest ((t, F) :: E) L) : PW P ops Q c N nd (1 :: ks) k (⟨some t, op, ty, pos, af, none⟩ :: rest) E L := ⟨F, [], ⟨rfl, .inr (.inl ⟨rfl, hs⟩)⟩, h⟩
/-- Memory is written. -/
theorem PW_2 {F : VP} {L' : List Item} (hs : OpS P c ⟨none, op, ty, pos, af, none⟩ (look E) L (fun _ : Unit => F) (fun _ => L')) (h : PW P ops Q c N nd ks (k + 1) rest E L') : PW P ops Q c N nd (2 :: ks) k (⟨none, op, ty, pos, af, none⟩ :: rest) E L := ⟨F, L', ⟨rfl, .inr (.inr (.inl ⟨rfl, hs⟩))⟩, h⟩
/-- What lies there is written once more. -/
theorem PW_3 {F : VP} (hs : OpS P c ⟨none, op, ty, pos, af, none⟩ (look E) L (fun _ : Unit => F) (fun _ => L)) (h : PW P ops Q c N nd ks (k + 1) rest E L) : PW P ops Q c N nd (1 :: ks) k (⟨none, op, ty, pos, af, none⟩ :: rest) E L := ⟨F, [], ⟨rfl, .inr (.inr (.inr ⟨rfl, hs⟩))⟩, h⟩
theorem PW_end (h : JD P ops Q c N nd k rest E L) : PW P ops Q c N nd [] k rest E L := h
end
end
end Go.Proofs.YtfglhiciagmicaaGreat

/- Rules: a part of a struct or of an array that is a value. Own work. -/
namespace Go.Proofs.YtfglhiciagmicaaGreat
open Go.RowKit
set_option linter.unusedVariables false
set_option linter.unusedSimpArgs false
section
variable {P : Program} {c : Ctx} {A : Nat → Option VP} {L : List Item} {d : Option Tmp} {ty : TypeId} {pos : String} {af : Array Edge} {g : Option (Nat × Bool)}
end
end Go.Proofs.YtfglhiciagmicaaGreat

/- Contracts: keys; verbs addressed; addresses of words. Own work. -/
namespace Go.Proofs.YtfglhiciagmicaaGreat
open Go.RowKit
set_option linter.unusedVariables false
set_option linter.unusedSimpArgs false
set_option maxRecDepth 100000
-- slices.Clone[[]uint64,uint64]: function 48
theorem CloneU64_ok (xs : List (BitVec 64)) (hl : xs.length ≤ 1000000) : FnP Tryz.prog 48 [IsSl tU64 xs] (IsSl tU64 xs) := by
  refine FnP.enter Tryz.func48 Tryz.ntmps48 rfl rfl ?_
  intro c hX
  (refine JC_seq ?_)
  refine JC_region ?_
  refine JL_1 rfl (op_assign rfl) ?_
  refine JL_nil ?_
  (repeat with_reducible first | refine JC_seq ?_ | refine JQ_then ?_)
  (skip)
  refine JC_region ?_
  refine JL_1 rfl (op_move rfl) ?_
  refine JL_1 rfl (op_eqNil (Ev.rfl' rfl) rfl) ?_
  refine JL_nil ?_
  (refine JQ_then ?_)
  refine JC_ex 4 rfl (fun hb => ?_)
  obtain ⟨b, hb⟩ := hb
  refine JC_cond (Ev.rfl' rfl) (fun h => ?_) (fun h => ?_)
  · (refine JC_seq ?_)
    refine JC_region ?_
    refine JL_1 rfl (op_assign rfl) ?_
    refine JL_nil ?_
    (repeat with_reducible first | refine JQ_then ?_ | refine JQ_then_ret ?_ | refine JC_ret ?_)
    have e := hb h
    subst e
    exact JQ_ret (Bs := [IsSl tU64 []]) Tryz.results48 ⟨⟨_, rfl, subT⟩, trivial⟩ () SubL.rfl' (List.nil_sublist _)
  · (repeat with_reducible first | refine JC_seq ?_ | refine JQ_then ?_ | refine JC_skip ?_)
    refine JC_region ?_
    (refine JL_n rfl (op_buildSlice0 tU64 rfl rfl) ?_; intro i5)
    refine JL_1 rfl (op_move rfl) ?_
    (refine JL_s rfl (op_app (Ev.rfl' rfl) (fun _ => replT) evS (by exact appT rfl rfl rfl) lenT) ?_; intro i7)
    refine JL_1 rfl (op_assign rfl) ?_
    refine JL_nil ?_
    (repeat with_reducible first | refine JQ_then ?_ | refine JC_ret ?_)
    refine JQ_freeze hX replT ?_
    exact JQ_ret (Bs := [IsSl tU64 xs]) Tryz.results48 ⟨⟨_, rfl, subT⟩, trivial⟩ () SubL.rfl' (List.nil_sublist _)
/-- The key of a view. -/
def keyU (n : Int) (open_ : Bool) : Int := if 0 ≤ n ∧ n < 16 then (if open_ then 2 * n + 1 else 2 * n) else 0
def keyC (n : Int) : Int := if 0 ≤ n ∧ n < 16 then 0 else 2
-- word.Key: function 63
theorem Key_ok (n : Int) (o : Bool) : FnP Tryz.prog 63 [Is (.int .i64 n), Is (.bool o)] (IsTup [Is (.int .u64 (keyU n o)), Is (.int .i64 (keyC n))]) := by
  refine FnP.enter Tryz.func63 Tryz.ntmps63 rfl rfl ?_
  intro c hX
  (refine JC_seq ?_)
  refine JC_region ?_
  refine JL_1 rfl (op_assign rfl) ?_
  refine JL_1 rfl (op_assign rfl) ?_
  refine JL_nil ?_
  (repeat with_reducible first | refine JC_seq ?_ | refine JQ_then ?_)
  (skip)
  refine JC_region ?_
  refine JL_1 rfl (op_move rfl) ?_
  refine JL_1 rfl (op_call Tryz.call58 (within_ok _ _ _) ⟨evS, ⟨evS, ⟨evS, trivial⟩⟩⟩) ?_
  refine JL_1 rfl (op_not (Ev.rfl' rfl)) ?_
  refine JL_nil ?_
  (refine JQ_then ?_)
  refine JC_cond (Ev.rfl' rfl) (fun h => ?_) (fun h => ?_)
  · have e : ¬ (0 ≤ n ∧ n < 16) := by simp at h; omega
    unfold keyU keyC
    rw [if_neg e, if_neg e]
    (refine JC_seq ?_)
    refine JC_region ?_
    refine JL_1 rfl (op_assign rfl) ?_
    refine JL_1 rfl (op_assign rfl) ?_
    refine JL_nil ?_
    (repeat with_reducible first | refine JQ_then ?_ | refine JQ_then_ret ?_ | refine JC_ret ?_)
    exact JQ_ret (Bs := [Is (.int .u64 0), Is (.int .i64 2)]) Tryz.results63 ⟨⟨_, rfl, subT⟩, ⟨⟨_, rfl, subT⟩, trivial⟩⟩ () SubL.rfl' (List.nil_sublist _)
  have e : 0 ≤ n ∧ n < 16 := by simp at h; omega
  clear h
  unfold keyU keyC
  rw [if_pos e, if_pos e]
  (repeat with_reducible first | refine JC_seq ?_ | refine JQ_then ?_ | refine JC_skip ?_)
  refine JC_region ?_
  refine JL_1 rfl (op_move rfl) ?_
  refine JL_1 rfl (op_conv (Ev.rfl' rfl) rfl rfl convT) ?_
  refine JL_1 rfl (op_mul (Ev.rfl' rfl) (Ev.rfl' rfl) wrapT) ?_
  refine JL_1 rfl (op_assign rfl) ?_
  refine JL_nil ?_
  (repeat with_reducible first | refine JC_seq ?_ | refine JQ_then ?_)
  (skip)
  refine JC_region ?_
  refine JL_1 rfl (op_move rfl) ?_
  refine JL_nil ?_
  (refine JQ_then ?_)
  refine JC_cond (Ev.rfl' rfl) (fun h => ?_) (fun h => ?_)
  · subst h
    rw [if_pos rfl]
    (skip)
    refine JC_region ?_
    refine JL_1 rfl (op_move rfl) ?_
    refine JL_1 rfl (op_add (Ev.rfl' rfl) (Ev.rfl' rfl) wrapT) ?_
    refine JL_1 rfl (op_assign rfl) ?_
    refine JL_nil ?_
    (repeat with_reducible first | refine JC_seq ?_ | refine JQ_then ?_)
    (skip)
    refine JC_region ?_
    refine JL_1 rfl (op_move rfl) ?_
    refine JL_1 rfl (op_assign rfl) ?_
    refine JL_1 rfl (op_assign rfl) ?_
    refine JL_nil ?_
    (repeat with_reducible first | refine JQ_then ?_ | refine JC_ret ?_)
    exact JQ_ret (Bs := [Is (.int .u64 (n * 2 + 1)), Is (.int .i64 0)]) Tryz.results63 ⟨⟨_, rfl, subT⟩, ⟨⟨_, rfl, subT⟩, trivial⟩⟩ () (SubL.eq (by rw [Int.mul_comm]; rfl)) (List.nil_sublist _)
  · subst h
    rw [if_neg (by simp)]
    (repeat with_reducible first | refine JC_seq ?_ | refine JQ_then ?_ | refine JC_skip ?_)
    (skip)
    refine JC_region ?_
    refine JL_1 rfl (op_move rfl) ?_
    refine JL_1 rfl (op_assign rfl) ?_
    refine JL_1 rfl (op_assign rfl) ?_
    refine JL_nil ?_
    (repeat with_reducible first | refine JQ_then ?_ | refine JC_ret ?_)
    exact JQ_ret (Bs := [Is (.int .u64 (n * 2)), Is (.int .i64 0)]) Tryz.results63 ⟨⟨_, rfl, subT⟩, ⟨⟨_, rfl, subT⟩, trivial⟩⟩ () (SubL.eq (by rw [Int.mul_comm]; rfl)) (List.nil_sublist _)
-- bodegaref1.Key: function 88
theorem KeyR_ok (n : Int) (o : Bool) : FnP Tryz.prog 88 [Is (.int .i64 n), Is (.bool o)] (IsTup [Is (.int .u64 (keyU n o)), Is (.int .i64 (keyC n))]) := by
  refine FnP.enter Tryz.func88 Tryz.ntmps88 rfl rfl ?_
  intro c hX
  (refine JC_seq ?_)
  refine JC_region ?_
  refine JL_1 rfl (op_assign rfl) ?_
  refine JL_1 rfl (op_assign rfl) ?_
  refine JL_nil ?_
  (repeat with_reducible first | refine JC_seq ?_ | refine JQ_then ?_)
  (skip)
  refine JC_region ?_
  refine JL_1 rfl (op_move rfl) ?_
  refine JL_1 rfl (op_lss (Ev.rfl' rfl) (Ev.rfl' rfl)) ?_
  refine JL_1 rfl (op_move rfl) ?_
  (refine JL_i0 rfl rfl rfl (fun hg => (by have hg0 := hg; (try simp at hg); exact op_moveE (Ev.rfl' rfl))) ?_)
  (refine JL_i0 rfl rfl rfl (fun hg => (by have hg0 := hg; (try simp at hg); exact op_geq evG evG)) ?_)
  refine JL_1 rfl (op_or (Ev.rfl' rfl) rfl (fun h => by exact SubL.iteT (by (rw [h]; rfl)) SubL.rfl')) ?_
  refine JL_nil ?_
  (refine JQ_then ?_)
  refine JC_cond (Ev.rfl' rfl) (fun h => ?_) (fun h => ?_)
  · have e : ¬ (0 ≤ n ∧ n < 16) := by simp at h; omega
    unfold keyU keyC
    rw [if_neg e, if_neg e]
    (refine JC_seq ?_)
    refine JC_region ?_
    refine JL_1 rfl (op_assign rfl) ?_
    refine JL_1 rfl (op_assign rfl) ?_
    refine JL_nil ?_
    (repeat with_reducible first | refine JQ_then ?_ | refine JQ_then_ret ?_ | refine JC_ret ?_)
    exact JQ_ret (Bs := [Is (.int .u64 0), Is (.int .i64 2)]) Tryz.results88 ⟨⟨_, rfl, subT⟩, ⟨⟨_, rfl, subT⟩, trivial⟩⟩ () SubL.rfl' (List.nil_sublist _)
  have e : 0 ≤ n ∧ n < 16 := by simp at h; omega
  clear h
  unfold keyU keyC
  rw [if_pos e, if_pos e]
  (repeat with_reducible first | refine JC_seq ?_ | refine JQ_then ?_ | refine JC_skip ?_)
  refine JC_region ?_
  refine JL_1 rfl (op_move rfl) ?_
  refine JL_1 rfl (op_mul (Ev.rfl' rfl) (Ev.rfl' rfl) wrapT) ?_
  refine JL_1 rfl (op_conv (Ev.rfl' rfl) rfl rfl convT) ?_
  refine JL_1 rfl (op_assign rfl) ?_
  refine JL_nil ?_
  (repeat with_reducible first | refine JC_seq ?_ | refine JQ_then ?_)
  (skip)
  refine JC_region ?_
  refine JL_1 rfl (op_move rfl) ?_
  refine JL_nil ?_
  (refine JQ_then ?_)
  refine JC_cond (Ev.rfl' rfl) (fun h => ?_) (fun h => ?_)
  · subst h
    rw [if_pos rfl]
    (skip)
    refine JC_region ?_
    refine JL_1 rfl (op_move rfl) ?_
    refine JL_1 rfl (op_add (Ev.rfl' rfl) (Ev.rfl' rfl) wrapT) ?_
    refine JL_1 rfl (op_assign rfl) ?_
    refine JL_nil ?_
    (repeat with_reducible first | refine JC_seq ?_ | refine JQ_then ?_)
    (skip)
    refine JC_region ?_
    refine JL_1 rfl (op_move rfl) ?_
    refine JL_1 rfl (op_assign rfl) ?_
    refine JL_1 rfl (op_assign rfl) ?_
    refine JL_nil ?_
    (repeat with_reducible first | refine JQ_then ?_ | refine JC_ret ?_)
    exact JQ_ret (Bs := [Is (.int .u64 (2 * n + 1)), Is (.int .i64 0)]) Tryz.results88 ⟨⟨_, rfl, subT⟩, ⟨⟨_, rfl, subT⟩, trivial⟩⟩ () SubL.rfl' (List.nil_sublist _)
  · subst h
    rw [if_neg (by simp)]
    (repeat with_reducible first | refine JC_seq ?_ | refine JQ_then ?_ | refine JC_skip ?_)
    (skip)
    refine JC_region ?_
    refine JL_1 rfl (op_move rfl) ?_
    refine JL_1 rfl (op_assign rfl) ?_
    refine JL_1 rfl (op_assign rfl) ?_
    refine JL_nil ?_
    (repeat with_reducible first | refine JQ_then ?_ | refine JC_ret ?_)
    exact JQ_ret (Bs := [Is (.int .u64 (2 * n)), Is (.int .i64 0)]) Tryz.results88 ⟨⟨_, rfl, subT⟩, ⟨⟨_, rfl, subT⟩, trivial⟩⟩ () SubL.rfl' (List.nil_sublist _)
theorem keyU_range (n : Int) (o : Bool) : 0 ≤ keyU n o ∧ keyU n o < 18446744073709551616 := by
  unfold keyU
  split
  · split <;> omega
  · omega
def addrV (num : Int) (m : Mb) (o : Bool) (x : GVerb) : GVerb := { x with node := m.n, boot := m.b, key := BitVec.ofInt 64 (keyU num o) }
set_option maxHeartbeats 2000000 in
-- view.Address: function 30
theorem Address_ok (num : Int) (ms : List Mb) (m : Mb) (o : Bool) (x : GVerb) (hl : x.words.length ≤ 1000000) : FnP Tryz.prog 30 [IsView num ms, IsMb m, Is (.bool o), IsGVerb x] (IsGVerb (addrV num m o x)) := by
  refine FnP.enter Tryz.func30 Tryz.ntmps30 rfl rfl ?_
  intro c hX
  (refine JC_seq ?_)
  refine JC_region ?_
  (refine JL_n rfl (op_box (Ev.rfl' rfl) cellsT) ?_; intro i4)
  (refine JL_n rfl (op_box (Ev.rfl' rfl) cellsT) ?_; intro i5)
  (refine JL_n rfl (op_box (Ev.rfl' rfl) cellsT) ?_; intro i7)
  (refine JL_n rfl (op_allocN rfl nrmT rfl) ?_; intro i8)
  refine JL_nil ?_
  (repeat with_reducible first | refine JC_seq ?_ | refine JQ_then ?_)
  (skip)
  refine JC_dr rfl (by kernel_rfl) ?_
  refine JD_front (it := blk i7 _ _) (by repeat (first | exact Drop1.here _ _ | apply Drop1.next)) ?_
  refine JD_stretchG (its := [_]) 8 (by kernel_rfl) ?_
  refine JW_1 (by exact op_fieldPtr (k := 0) (Ev.rfl' rfl) rfl rfl rfl rfl) ?_
  refine JW_1 (by exact op_loadPtr (Ev.rfl' rfl) memT (by rfl) (by rfl) (by rfl)) ?_
  refine JW_1 (by exact op_fieldPtr (k := 1) (Ev.rfl' rfl) rfl rfl rfl rfl) ?_
  refine JW_1 (by exact op_loadPtr (Ev.rfl' rfl) memT (by rfl) (by rfl) (by rfl)) ?_
  refine JW_1 (by exact op_fieldPtr (k := 1) (Ev.rfl' rfl) rfl rfl rfl rfl) ?_
  refine JW_ghost (s := 28) rfl rfl rfl (by kernel_rfl) (fun c' => by exact op_store (Ev.rfl' rfl) (Ev.rfl' rfl) cellsT replT (by rfl) (by rfl) (by rfl)) ?_
  refine JW_1 (by exact op_fieldPtr (k := 8) (Ev.rfl' rfl) rfl rfl rfl rfl) ?_
  refine JW_ghost (s := 28) rfl rfl rfl (by kernel_rfl) (fun c' => by exact op_store (Ev.rfl' rfl) (Ev.rfl' rfl) cellsT replT (by rfl) (by rfl) (by rfl)) ?_
  refine ⟨rfl, ?_⟩
  intro _
  refine JD_end ?_
  (repeat with_reducible first | refine JC_seq ?_ | refine JQ_then ?_)
  (skip)
  refine JC_region ?_
  refine JL_1 rfl (by exact op_fieldPtr (k := 0) (Ev.rfl' rfl) rfl rfl rfl rfl) ?_
  refine JL_1 rfl (by exact op_loadPtr (Ev.rfl' rfl) memT (by rfl) (by rfl) (by rfl)) ?_
  refine JL_1 rfl (op_move rfl) ?_
  refine JL_1 rfl (op_call Tryz.call63 (Key_ok _ _) ⟨evS, ⟨evS, trivial⟩⟩) ?_
  refine JL_1 rfl (op_move rfl) ?_
  refine JL_1 rfl (op_extract (Ev.rfl' rfl) rfl) ?_
  refine JL_1 rfl (op_extract (Ev.rfl' rfl) rfl) ?_
  refine JL_1 rfl (by exact op_fieldPtr (k := 7) (Ev.rfl' rfl) rfl rfl rfl rfl) ?_
  refine JL_set 20 (Is (.int .u64 (UV (BitVec.ofInt 64 (keyU num o))))) rfl (SubL.eq (congrArg Is (u64lit (keyU_range num o)))) ?_
  refine JL_s0 (op_storeN (Ev.rfl' rfl) (Ev.rfl' rfl) cellsT replT nrmT (by rfl) (by rfl) (by rfl)) ?_
  refine JL_nil ?_
  (repeat with_reducible first | refine JC_seq ?_ | refine JQ_then ?_)
  (skip)
  refine JC_region ?_
  refine JL_1 rfl (by exact op_fieldPtr (k := 6) (Ev.rfl' rfl) rfl rfl rfl rfl) ?_
  refine JL_1 rfl (by exact op_loadPtr (Ev.rfl' rfl) memT (by rfl) (by rfl) (by rfl)) ?_
  refine JL_1 rfl (by ((refine op_call Tryz.call48 (CloneU64_ok _ ?_) ⟨evS, trivial⟩); all_goals (first | first | omega | (simp; omega)))) ?_
  refine JL_1 rfl (by exact op_fieldPtr (k := 6) (Ev.rfl' rfl) rfl rfl rfl rfl) ?_
  refine JL_s0 (op_storeN (Ev.rfl' rfl) (Ev.rfl' rfl) cellsT replT nrmT (by rfl) (by rfl) (by rfl)) ?_
  refine JL_nil ?_
  (repeat with_reducible first | refine JC_seq ?_ | refine JQ_then ?_)
  (skip)
  refine JC_region ?_
  refine JL_1 rfl (by exact op_loadPtrsN (n := 9) (Ev.rfl' rfl) memT (by rfl) (by rfl) (by rfl) (by rfl) nrmT) ?_
  refine JL_s0 (op_storeN (Ev.rfl' rfl) (Ev.rfl' rfl) cellsT replT nrmT (by rfl) (by rfl) (by rfl)) ?_
  refine JL_nil ?_
  (repeat with_reducible first | refine JQ_then ?_ | refine JC_ret ?_)
  exact JQ_ret (Bs := [IsGVerb (addrV num m o x)]) Tryz.results30 ⟨⟨_, _, _, _, rfl, memT, rfl, .inr ⟨rfl, _, rfl, rfl, subT⟩⟩, trivial⟩ () SubL.rfl' (List.nil_sublist _)
set_option maxHeartbeats 2000000 in
-- bodegaref9.Address: function 71
theorem AddressR_ok (num : Int) (ms : List Mb) (m : Mb) (o : Bool) (x : GVerb) : FnP Tryz.prog 71 [IsView num ms, IsMb m, Is (.bool o), IsGVerb x] (IsGVerb (addrV num m o x)) := by
  refine FnP.enter Tryz.func71 Tryz.ntmps71 rfl rfl ?_
  intro c hX
  (refine JC_seq ?_)
  refine JC_region ?_
  (refine JL_n rfl (op_box (Ev.rfl' rfl) cellsT) ?_; intro i4)
  (refine JL_n rfl (op_box (Ev.rfl' rfl) cellsT) ?_; intro i5)
  (refine JL_n rfl (op_box (Ev.rfl' rfl) cellsT) ?_; intro i7)
  (refine JL_n rfl (op_allocN rfl nrmT rfl) ?_; intro i8)
  refine JL_nil ?_
  (repeat with_reducible first | refine JC_seq ?_ | refine JQ_then ?_)
  (skip)
  refine JC_dr rfl (by kernel_rfl) ?_
  refine JD_front (it := blk i7 _ _) (by repeat (first | exact Drop1.here _ _ | apply Drop1.next)) ?_
  refine JD_stretchG (its := [_]) 8 (by kernel_rfl) ?_
  refine JW_1 (by exact op_fieldPtr (k := 0) (Ev.rfl' rfl) rfl rfl rfl rfl) ?_
  refine JW_1 (by exact op_loadPtr (Ev.rfl' rfl) memT (by rfl) (by rfl) (by rfl)) ?_
  refine JW_1 (by exact op_fieldPtr (k := 1) (Ev.rfl' rfl) rfl rfl rfl rfl) ?_
  refine JW_1 (by exact op_loadPtr (Ev.rfl' rfl) memT (by rfl) (by rfl) (by rfl)) ?_
  refine JW_1 (by exact op_fieldPtr (k := 1) (Ev.rfl' rfl) rfl rfl rfl rfl) ?_
  refine JW_ghost (s := 24) rfl rfl rfl (by kernel_rfl) (fun c' => by exact op_store (Ev.rfl' rfl) (Ev.rfl' rfl) cellsT replT (by rfl) (by rfl) (by rfl)) ?_
  refine JW_1 (by exact op_fieldPtr (k := 8) (Ev.rfl' rfl) rfl rfl rfl rfl) ?_
  refine JW_ghost (s := 24) rfl rfl rfl (by kernel_rfl) (fun c' => by exact op_store (Ev.rfl' rfl) (Ev.rfl' rfl) cellsT replT (by rfl) (by rfl) (by rfl)) ?_
  refine ⟨rfl, ?_⟩
  intro _
  refine JD_end ?_
  (repeat with_reducible first | refine JC_seq ?_ | refine JQ_then ?_)
  (skip)
  refine JC_region ?_
  refine JL_1 rfl (by exact op_fieldPtr (k := 0) (Ev.rfl' rfl) rfl rfl rfl rfl) ?_
  refine JL_1 rfl (by exact op_loadPtr (Ev.rfl' rfl) memT (by rfl) (by rfl) (by rfl)) ?_
  refine JL_1 rfl (op_move rfl) ?_
  refine JL_1 rfl (op_call Tryz.call88 (KeyR_ok _ _) ⟨evS, ⟨evS, trivial⟩⟩) ?_
  refine JL_1 rfl (op_move rfl) ?_
  refine JL_1 rfl (op_extract (Ev.rfl' rfl) rfl) ?_
  refine JL_1 rfl (op_extract (Ev.rfl' rfl) rfl) ?_
  refine JL_1 rfl (by exact op_fieldPtr (k := 7) (Ev.rfl' rfl) rfl rfl rfl rfl) ?_
  refine JL_set 20 (Is (.int .u64 (UV (BitVec.ofInt 64 (keyU num o))))) rfl (SubL.eq (congrArg Is (u64lit (keyU_range num o)))) ?_
  refine JL_s0 (op_storeN (Ev.rfl' rfl) (Ev.rfl' rfl) cellsT replT nrmT (by rfl) (by rfl) (by rfl)) ?_
  refine JL_nil ?_
  (repeat with_reducible first | refine JC_seq ?_ | refine JQ_then ?_)
  (skip)
  refine JC_region ?_
  refine JL_1 rfl (by exact op_loadPtrsN (n := 9) (Ev.rfl' rfl) memT (by rfl) (by rfl) (by rfl) (by rfl) nrmT) ?_
  refine JL_s0 (op_storeN (Ev.rfl' rfl) (Ev.rfl' rfl) cellsT replT nrmT (by rfl) (by rfl) (by rfl)) ?_
  refine JL_nil ?_
  (repeat with_reducible first | refine JQ_then ?_ | refine JC_ret ?_)
  exact JQ_ret (Bs := [IsGVerb (addrV num m o x)]) Tryz.results71 ⟨⟨_, _, _, _, rfl, memT, rfl, .inr ⟨rfl, _, rfl, rfl, subT⟩⟩, trivial⟩ () SubL.rfl' (List.nil_sublist _)
-- view.Primary: function 83
theorem Primary_ok (n : Int) (ms : List Mb) : FnP Tryz.prog 83 [IsView n ms] (IsTup [IsMb (Mb.at ms 0), Is (.bool (decide (0 < ms.length)))]) := by
  refine FnP.enter Tryz.func83 Tryz.ntmps83 rfl rfl ?_
  intro c hX
  (refine JC_seq ?_)
  refine JC_region ?_
  (refine JL_n rfl (op_box (Ev.rfl' rfl) cellsT) ?_; intro i1)
  (refine JL_n rfl (op_allocN rfl nrmT rfl) ?_; intro i2)
  refine JL_1 rfl (op_assign rfl) ?_
  refine JL_nil ?_
  (repeat with_reducible first | refine JC_seq ?_ | refine JQ_then ?_)
  (skip)
  refine JC_region ?_
  refine JL_1 rfl (by exact op_fieldPtr (k := 1) (Ev.rfl' rfl) rfl rfl rfl rfl) ?_
  refine JL_1 rfl (by exact op_loadPtr (Ev.rfl' rfl) memT (by rfl) (by rfl) (by rfl)) ?_
  refine JL_1 rfl (by exact op_len (Ev.rfl' rfl) rfl) ?_
  refine JL_1 rfl (op_eql (Ev.rfl' rfl) (Ev.rfl' rfl)) ?_
  refine JL_nil ?_
  (refine JQ_then ?_)
  refine JC_cond (Ev.rfl' rfl) (fun h => ?_) (fun h => ?_)
  · (refine JC_seq ?_)
    refine JC_region ?_
    refine JL_1 rfl (op_buildN (qs := []) rfl rfl rfl rfl trivial (by rfl) nrmT) ?_
    refine JL_s0 (op_storeN (Ev.rfl' rfl) (Ev.rfl' rfl) cellsT replT nrmT (by rfl) (by rfl) (by rfl)) ?_
    refine JL_1 rfl (op_assign rfl) ?_
    refine JL_nil ?_
    (repeat with_reducible first | refine JQ_then ?_ | refine JQ_then_ret ?_ | refine JC_ret ?_)
    have e : ms = [] := by simpa using h
    subst e
    exact JQ_ret (Bs := [IsMb ⟨0, 0, false⟩, Is (.bool false)]) Tryz.results83 ⟨⟨_, _, _, _, rfl, memT, rfl, .inr ⟨rfl, _, rfl, rfl, subT⟩⟩, ⟨⟨_, rfl, subT⟩, trivial⟩⟩ () SubL.rfl' (List.nil_sublist _)
  have e : 0 < ms.length := by
    rcases ms with _ | ⟨m, ms⟩
    · simp at h
    · simp
  have hz := Mb.at_get ms 0 e
  rw [decide_eq_true e]
  (repeat with_reducible first | refine JC_seq ?_ | refine JQ_then ?_ | refine JC_skip ?_)
  refine JC_region ?_
  refine JL_1 rfl (by exact op_fieldPtr (k := 1) (Ev.rfl' rfl) rfl rfl rfl rfl) ?_
  refine JL_1 rfl (by exact op_loadPtr (Ev.rfl' rfl) memT (by rfl) (by rfl) (by rfl)) ?_
  refine JL_1 rfl (by exact op_index (j := 0) (Ev.rfl' rfl) (Ev.rfl' rfl) rfl rfl (by rfl) hz) ?_
  refine JL_1 rfl (by exact op_loadRefsN (n := 3) (Ev.rfl' rfl) rfl rfl rfl (by rfl) nrmT) ?_
  refine JL_s0 (op_storeN (Ev.rfl' rfl) (Ev.rfl' rfl) cellsT replT nrmT (by rfl) (by rfl) (by rfl)) ?_
  refine JL_1 rfl (op_assign rfl) ?_
  refine JL_nil ?_
  (repeat with_reducible first | refine JQ_then ?_ | refine JC_ret ?_)
  exact JQ_ret (Bs := [IsMb (Mb.at ms 0), Is (.bool true)]) Tryz.results83 ⟨⟨_, _, _, _, rfl, memT, rfl, .inr ⟨rfl, _, rfl, rfl, subT⟩⟩, ⟨⟨_, rfl, subT⟩, trivial⟩⟩ () SubL.rfl' (List.nil_sublist _)
def addrN (base c : Int) : Int := if 0 ≤ c ∧ c < 6 then base + c else -1
-- lease.isClient: function 26
theorem isClient_ok (n : Int) : FnP Tryz.prog 26 [Is (.int .i64 n)] (Is (.bool (decide (n ≥ 0) && decide (n < 6)))) := by
  refine FnP.enter Tryz.func26 Tryz.ntmps26 rfl rfl ?_
  intro c hX
  refine JC_seq ?_
  refine JC_region ?_
  refine JL_1 rfl (op_assign rfl) ?_
  refine JL_nil ?_
  refine JQ_then (JC_seq ?_)
  refine JC_region ?_
  refine JL_1 rfl (op_move rfl) ?_
  refine JL_1 rfl (op_geq (Ev.rfl' rfl) (Ev.rfl' rfl)) ?_
  refine JL_1 rfl (op_move rfl) ?_
  (refine JL_i0 rfl rfl rfl (fun hg => (by have hg0 := hg; (try simp at hg); exact op_moveE (Ev.rfl' rfl))) ?_)
  (refine JL_i0 rfl rfl rfl (fun hg => (by have hg0 := hg; (try simp at hg); exact op_lss evG evG)) ?_)
  refine JL_1 rfl (op_and (Ev.rfl' rfl) rfl (fun h => by exact SubL.iteT (by (rw [h]; rfl)) SubL.rfl')) ?_
  refine JL_1 rfl (op_assign rfl) ?_
  refine JL_nil ?_
  refine JQ_then (JC_ret ?_)
  refine JQ_ret1 Tryz.results26 rfl () (SubL.eq ?_) (List.nil_sublist _)
  rfl
-- bodegaref1.Client: function 32
theorem ClientR_ok (n : Int) : FnP Tryz.prog 32 [Is (.int .i64 n)] (Is (.bool (decide (n ≥ 0) && decide (n < 6)))) := by
  refine FnP.enter Tryz.func32 Tryz.ntmps32 rfl rfl ?_
  intro c hX
  refine JC_seq ?_
  refine JC_region ?_
  refine JL_1 rfl (op_assign rfl) ?_
  refine JL_nil ?_
  refine JQ_then (JC_seq ?_)
  refine JC_region ?_
  refine JL_1 rfl (op_move rfl) ?_
  refine JL_1 rfl (op_geq (Ev.rfl' rfl) (Ev.rfl' rfl)) ?_
  refine JL_1 rfl (op_move rfl) ?_
  (refine JL_i0 rfl rfl rfl (fun hg => (by have hg0 := hg; (try simp at hg); exact op_moveE (Ev.rfl' rfl))) ?_)
  (refine JL_i0 rfl rfl rfl (fun hg => (by have hg0 := hg; (try simp at hg); exact op_lss evG evG)) ?_)
  refine JL_1 rfl (op_and (Ev.rfl' rfl) rfl (fun h => by exact SubL.iteT (by (rw [h]; rfl)) SubL.rfl')) ?_
  refine JL_1 rfl (op_assign rfl) ?_
  refine JL_nil ?_
  refine JQ_then (JC_ret ?_)
  refine JQ_ret1 Tryz.results32 rfl () (SubL.eq ?_) (List.nil_sublist _)
  rfl
-- bodegaref1.LeaseAt: function 36
theorem LeaseAtR_ok (n : Int) : FnP Tryz.prog 36 [Is (.int .i64 n)] (Is (.int .i64 (addrN 40 n))) := by
  refine FnP.enter Tryz.func36 Tryz.ntmps36 rfl rfl ?_
  intro c hX
  refine JC_seq ?_
  refine JC_region ?_
  refine JL_1 rfl (op_assign rfl) ?_
  refine JL_nil ?_
  refine JQ_then (JC_seq (JC_seq ?_))
  refine JC_region ?_
  refine JL_1 rfl (op_move rfl) ?_
  refine JL_1 rfl (op_call Tryz.call32 (ClientR_ok _) ⟨evS, trivial⟩) ?_
  refine JL_1 rfl (op_not (Ev.rfl' rfl)) ?_
  refine JL_nil ?_
  refine JQ_then ?_
  refine JC_cond (Ev.rfl' rfl) (fun h1 => ?_) (fun h1 => ?_)
  · have g : ¬ (0 ≤ n ∧ n < 6) := by simp at h1; omega
    have e : addrN 40 n = -1 := by unfold addrN; rw [if_neg g]
    rw [e]
    refine JC_seq ?_
    refine JC_region ?_
    refine JL_1 rfl (op_assign rfl) ?_
    refine JL_nil ?_
    refine JQ_then (JC_ret (JQ_then_ret ?_))
    refine JQ_ret1 Tryz.results36 rfl () (SubL.eq ?_) (List.nil_sublist _)
    rfl
  have g : 0 ≤ n ∧ n < 6 := by simp at h1; omega
  have e : addrN 40 n = 40 + n := by unfold addrN; rw [if_pos g]
  rw [e]
  clear h1
  refine JC_skip (JQ_then (JC_seq ?_))
  refine JC_region ?_
  refine JL_1 rfl (op_move rfl) ?_
  refine JL_1 rfl (op_add (Ev.rfl' rfl) (Ev.rfl' rfl) wrapT) ?_
  refine JL_1 rfl (op_assign rfl) ?_
  refine JL_nil ?_
  refine JQ_then (JC_ret ?_)
  refine JQ_ret1 Tryz.results36 rfl () (SubL.eq ?_) (List.nil_sublist _)
  rfl
-- bodegaref1.Clock: function 50
theorem ClockR_ok (n : Int) : FnP Tryz.prog 50 [Is (.int .i64 n)] (Is (.int .i64 (addrN 32 n))) := by
  refine FnP.enter Tryz.func50 Tryz.ntmps50 rfl rfl ?_
  intro c hX
  refine JC_seq ?_
  refine JC_region ?_
  refine JL_1 rfl (op_assign rfl) ?_
  refine JL_nil ?_
  refine JQ_then (JC_seq (JC_seq ?_))
  refine JC_region ?_
  refine JL_1 rfl (op_move rfl) ?_
  refine JL_1 rfl (op_call Tryz.call32 (ClientR_ok _) ⟨evS, trivial⟩) ?_
  refine JL_1 rfl (op_not (Ev.rfl' rfl)) ?_
  refine JL_nil ?_
  refine JQ_then ?_
  refine JC_cond (Ev.rfl' rfl) (fun h1 => ?_) (fun h1 => ?_)
  · have g : ¬ (0 ≤ n ∧ n < 6) := by simp at h1; omega
    have e : addrN 32 n = -1 := by unfold addrN; rw [if_neg g]
    rw [e]
    refine JC_seq ?_
    refine JC_region ?_
    refine JL_1 rfl (op_assign rfl) ?_
    refine JL_nil ?_
    refine JQ_then (JC_ret (JQ_then_ret ?_))
    refine JQ_ret1 Tryz.results50 rfl () (SubL.eq ?_) (List.nil_sublist _)
    rfl
  have g : 0 ≤ n ∧ n < 6 := by simp at h1; omega
  have e : addrN 32 n = 32 + n := by unfold addrN; rw [if_pos g]
  rw [e]
  clear h1
  refine JC_skip (JQ_then (JC_seq ?_))
  refine JC_region ?_
  refine JL_1 rfl (op_move rfl) ?_
  refine JL_1 rfl (op_add (Ev.rfl' rfl) (Ev.rfl' rfl) wrapT) ?_
  refine JL_1 rfl (op_assign rfl) ?_
  refine JL_nil ?_
  refine JQ_then (JC_ret ?_)
  refine JQ_ret1 Tryz.results50 rfl () (SubL.eq ?_) (List.nil_sublist _)
  rfl
-- bodegaref1.Door: function 101
theorem DoorR_ok (n : Int) : FnP Tryz.prog 101 [Is (.int .i64 n)] (Is (.int .i64 (addrN 24 n))) := by
  refine FnP.enter Tryz.func101 Tryz.ntmps101 rfl rfl ?_
  intro c hX
  refine JC_seq ?_
  refine JC_region ?_
  refine JL_1 rfl (op_assign rfl) ?_
  refine JL_nil ?_
  refine JQ_then (JC_seq (JC_seq ?_))
  refine JC_region ?_
  refine JL_1 rfl (op_move rfl) ?_
  refine JL_1 rfl (op_call Tryz.call32 (ClientR_ok _) ⟨evS, trivial⟩) ?_
  refine JL_1 rfl (op_not (Ev.rfl' rfl)) ?_
  refine JL_nil ?_
  refine JQ_then ?_
  refine JC_cond (Ev.rfl' rfl) (fun h1 => ?_) (fun h1 => ?_)
  · have g : ¬ (0 ≤ n ∧ n < 6) := by simp at h1; omega
    have e : addrN 24 n = -1 := by unfold addrN; rw [if_neg g]
    rw [e]
    refine JC_seq ?_
    refine JC_region ?_
    refine JL_1 rfl (op_assign rfl) ?_
    refine JL_nil ?_
    refine JQ_then (JC_ret (JQ_then_ret ?_))
    refine JQ_ret1 Tryz.results101 rfl () (SubL.eq ?_) (List.nil_sublist _)
    rfl
  have g : 0 ≤ n ∧ n < 6 := by simp at h1; omega
  have e : addrN 24 n = 24 + n := by unfold addrN; rw [if_pos g]
  rw [e]
  clear h1
  refine JC_skip (JQ_then (JC_seq ?_))
  refine JC_region ?_
  refine JL_1 rfl (op_move rfl) ?_
  refine JL_1 rfl (op_add (Ev.rfl' rfl) (Ev.rfl' rfl) wrapT) ?_
  refine JL_1 rfl (op_assign rfl) ?_
  refine JL_nil ?_
  refine JQ_then (JC_ret ?_)
  refine JQ_ret1 Tryz.results101 rfl () (SubL.eq ?_) (List.nil_sublist _)
  rfl
-- layout.region: function 62
theorem region_ok (l n : Int) : FnP Tryz.prog 62 [Is (.int .i64 l), Is (.int .i64 n)] (IsFn 86 [IsRef [Is (.int .i64 n)], IsRef [Is (.int .i64 l)]]) := by
  refine FnP.enter Tryz.func62 Tryz.ntmps62 rfl rfl ?_
  intro c hX
  refine JC_seq ?_
  refine JC_region ?_
  (refine JL_n rfl (op_box (Ev.rfl' rfl) cellsT) ?_; intro i2)
  (refine JL_n rfl (op_box (Ev.rfl' rfl) cellsT) ?_; intro i3)
  refine JL_1 rfl (op_assign rfl) ?_
  refine JL_nil ?_
  refine JQ_then (JC_seq ?_)
  refine JC_freezeB hX (b := i2) replT ?_
  refine JC_freezeB hX (b := i3) replT ?_
  refine JC_set 2 (IsRef [Is (.int .i64 l)]) rfl (SubL.fact memT) ?_
  refine JC_set 3 (IsRef [Is (.int .i64 n)]) rfl (SubL.fact memT) ?_
  refine JC_region ?_
  refine JL_1 rfl (op_makeFunc (Cs := [IsRef [Is (.int .i64 n)], IsRef [Is (.int .i64 l)]]) ⟨evS, ⟨evS, trivial⟩⟩) ?_
  refine JL_1 rfl (op_assign rfl) ?_
  refine JL_nil ?_
  refine JQ_then (JC_ret ?_)
  exact JQ_ret1 Tryz.results62 rfl () SubL.rfl' (List.nil_sublist _)
-- layout.region$1: function 86
theorem regionC_ok (b m : Int) (hb : b = 5 ∨ b = 4) : FnP Tryz.prog 86 [Is (.int .i64 m), IsRef [Is (.int .i64 6)], IsRef [Is (.int .i64 b)]] (Is (.int .i64 (addrN (8 * b) m))) := by
  refine FnP.enter Tryz.func86 Tryz.ntmps86 rfl rfl ?_
  intro c hX
  refine JC_seq ?_
  refine JC_region ?_
  refine JL_1 rfl (op_assign rfl) ?_
  refine JL_nil ?_
  refine JQ_then (JC_seq (JC_seq ?_))
  refine JC_region ?_
  refine JL_1 rfl (op_move rfl) ?_
  refine JL_1 rfl (op_lss (Ev.rfl' rfl) (Ev.rfl' rfl)) ?_
  refine JL_1 rfl (op_move rfl) ?_
  (refine JL_i0 rfl rfl rfl (fun hg => (by have hg0 := hg; (try simp at hg); exact op_moveE (Ev.rfl' rfl))) ?_)
  (refine JL_i0 rfl rfl rfl (fun hg => (by have hg0 := hg; (try simp at hg); exact op_loadRef evG rfl rfl rfl)) ?_)
  (refine JL_i0 rfl rfl rfl (fun hg => (by have hg0 := hg; (try simp at hg); exact op_geq evG evG)) ?_)
  refine JL_1 rfl (op_or (Ev.rfl' rfl) rfl (fun h => by exact SubL.iteT (by (rw [h]; rfl)) SubL.rfl')) ?_
  refine JL_nil ?_
  refine JQ_then ?_
  refine JC_cond (Ev.rfl' rfl) (fun h1 => ?_) (fun h1 => ?_)
  · have g : ¬ (0 ≤ m ∧ m < 6) := by simp at h1; omega
    have e : addrN (8 * b) m = -1 := by unfold addrN; rw [if_neg g]
    rw [e]
    refine JC_seq ?_
    refine JC_region ?_
    refine JL_1 rfl (op_assign rfl) ?_
    refine JL_nil ?_
    refine JQ_then (JC_ret (JQ_then_ret ?_))
    refine JQ_ret1 Tryz.results86 rfl () (SubL.eq ?_) (List.nil_sublist _)
    rfl
  have g : 0 ≤ m ∧ m < 6 := by simp at h1; omega
  have e : addrN (8 * b) m = b * 8 + m := by unfold addrN; rw [if_pos g, Int.mul_comm]
  rw [e]
  clear h1
  refine JC_skip (JQ_then (JC_seq ?_))
  refine JC_region ?_
  refine JL_1 rfl (by exact op_loadRef (Ev.rfl' rfl) rfl rfl rfl) ?_
  refine JL_1 rfl (op_mul (Ev.rfl' rfl) (Ev.rfl' rfl) wrapT) ?_
  refine JL_1 rfl (op_move rfl) ?_
  refine JL_1 rfl (op_add (Ev.rfl' rfl) (Ev.rfl' rfl) wrapT) ?_
  refine JL_1 rfl (op_assign rfl) ?_
  refine JL_nil ?_
  refine JQ_then (JC_ret ?_)
  refine JQ_ret1 Tryz.results86 rfl () (SubL.eq ?_) (List.nil_sublist _)
  rfl
-- layout.Lease: function 29
theorem LeaseAt_ok (m : Int) : FnP Tryz.prog 29 [Is (.int .i64 m)] (Is (.int .i64 (addrN 40 m))) := by
  refine FnP.enter Tryz.func29 Tryz.ntmps29 rfl rfl ?_
  intro c hX
  refine JC_seq ?_
  refine JC_region ?_
  refine JL_1 rfl (op_assign rfl) ?_
  refine JL_nil ?_
  refine JQ_then (JC_seq ?_)
  refine JC_region ?_
  refine JL_1 rfl (op_call Tryz.call62 (region_ok _ _) ⟨evS, ⟨evS, trivial⟩⟩) ?_
  refine JL_1 rfl (op_move rfl) ?_
  refine JL_1 rfl (op_callFn (As := [Is (.int .i64 m)]) (Ev.rfl' rfl) Tryz.call86 (regionC_ok 5 m (by decide)) ⟨evS, trivial⟩) ?_
  refine JL_1 rfl (op_assign rfl) ?_
  refine JL_nil ?_
  refine JQ_then (JC_ret ?_)
  refine JQ_ret1 Tryz.results29 rfl () (SubL.eq ?_) (List.nil_sublist _)
  rfl
-- layout.Clock: function 46
def putV (num : Int) (m : Mb) (at_ : Int) (ws : List (BitVec 64)) : GVerb := addrV num m true ⟨2, 0, at_, 0, 0#64, 0#64, ws, 0#64, 0⟩
def getV (num : Int) (m : Mb) (at_ n : Int) : GVerb := addrV num m true ⟨1, 0, at_, n, 0#64, 0#64, [], 0#64, 0⟩
-- bodegaref9.put: function 35
-- bodegaref9.get: function 49
theorem get_ok (num : Int) (ms : List Mb) (m : Mb) (at_ n : Int) : FnP Tryz.prog 49 [IsView num ms, IsMb m, Is (.int .i64 at_), Is (.int .i64 n)] (IsGVerb (getV num m at_ n)) := by
  refine FnP.enter Tryz.func49 Tryz.ntmps49 rfl rfl ?_
  intro c hX
  refine JC_seq ?_
  refine JC_region ?_
  (refine JL_n rfl (op_box (Ev.rfl' rfl) cellsT) ?_; intro i4)
  (refine JL_n rfl (op_box (Ev.rfl' rfl) cellsT) ?_; intro i5)
  (refine JL_n rfl (op_allocN rfl nrmT rfl) ?_; intro i8)
  refine JL_nil ?_
  refine JQ_then (JC_seq ?_)
  refine JC_region ?_
  refine JL_1 rfl (by exact op_loadPtrsN (n := 2) (Ev.rfl' rfl) memT (by rfl) (by rfl) (by rfl) (by rfl) nrmT) ?_
  refine JL_1 rfl (by exact op_loadPtrsN (n := 3) (Ev.rfl' rfl) memT (by rfl) (by rfl) (by rfl) (by rfl) nrmT) ?_
  refine JL_1 rfl (op_move rfl) ?_
  refine JL_1 rfl (op_move rfl) ?_
  refine JL_1 rfl (op_buildN (qs := [(0, _), (2, _), (3, _)]) rfl rfl rfl rfl ⟨⟨rfl, _, (Ev.rfl' rfl), cellsT⟩, ⟨⟨rfl, _, (Ev.rfl' rfl), cellsT⟩, ⟨⟨rfl, _, (Ev.rfl' rfl), cellsT⟩, trivial⟩⟩⟩ (by rfl) nrmT) ?_
  refine JL_1 rfl (op_call Tryz.call71 (AddressR_ok _ _ _ _ ⟨1, 0, at_, n, 0#64, 0#64, [], 0#64, 0⟩) ⟨evS, ⟨evS, ⟨evS, ⟨evS, trivial⟩⟩⟩⟩) ?_
  refine JL_s0 (op_storeN (Ev.rfl' rfl) (Ev.rfl' rfl) cellsT replT nrmT (by rfl) (by rfl) (by rfl)) ?_
  refine JL_nil ?_
  refine JQ_then (JC_ret ?_)
  exact JQ_ret (Bs := [IsGVerb (getV num m at_ n)]) Tryz.results49 ⟨⟨_, _, _, _, rfl, memT, rfl, .inr ⟨rfl, _, rfl, rfl, subT⟩⟩, trivial⟩ () SubL.rfl' (List.nil_sublist _)
end Go.Proofs.YtfglhiciagmicaaGreat

/- Rules: a call that changes memory of one's own that is handed to it. Own work. -/
namespace Go.Proofs.YtfglhiciagmicaaGreat
open Go.RowKit
set_option linter.unusedVariables false
set_option linter.unusedSimpArgs false
theorem ieq {a b : Int} (h : a = b) : Is (.int .i64 a) = Is (.int .i64 b) := by rw [h]
section
variable {P : Program} {c : Ctx} {A : Nat → Option VP} {L : List Item} {d : Option Tmp} {ty : TypeId} {pos : String} {af : Array Edge} {g : Option (Nat × Bool)}
theorem drop1T {L L' : List Item} {it : Item} (h : Drop1 L it L' := by repeat (first | exact Drop1.here _ _ | apply Drop1.next)) : Drop1 L it L' := h
theorem op_callT {f : FuncId} {xs : List Operand} {ts : Array TypeId} {As : List VP} {it : Item} {L1 : List Item} {ι : Type} {R : ι → VP} {L' : ι → List Item} (hd : Drop1 L it L1) (hc : ∀ (args : Array Value) (w : World), (callFunc f args).run P w = .ok (.enter f args) w)
    (hF : Fn P f As [it] R L') (ha : ArgsE A L xs As) : OpS P c ⟨d, .call { callee := .value (.func f), args := xs.toArray, argTypes := ts }, ty, pos, af, g⟩ A L R (fun i => L' i ++ L1) := by
  intro φ a w K Q hm he hk
  have hv := ha.alls (φ := φ) (a := a) fun x hx => he x (by simp [Op.operands, Call.operands, hx])
  have hm' : HP c φ ([it] ++ L1) w := hm.lessP (.cons hd (SubP.refl' _))
  unfold Oper.wp
  rw [run_enter hc]
  refine (hF φ w _ hv hm'.mem.left).mono ?_
  rintro e w' ⟨i, v, φ', rfl, h1, h2⟩
  exact hk i φ' v w' (h2.fle hm.mem.base) h1 (hm'.call h2)
end
end Go.Proofs.YtfglhiciagmicaaGreat

/- A call to which own memory is lent and that hands back own memory. Own work. -/
namespace Go.Proofs.YtfglhiciagmicaaGreat
open Go.RowKit
set_option linter.unusedVariables false
set_option linter.unusedSimpArgs false
/-- A thing in memory that names no other memory. -/
def PureI (it : Item) : Prop := ∀ φ φ' o, it.ok φ o → it.ok φ' o
def PureIs : List Item → Prop
  | [] => True
  | it :: L => PureI it ∧ PureIs L
theorem PureIs.at_ : ∀ {L : List Item} {it : Item}, PureIs L → it ∈ L → PureI it
  | x :: L, it, ⟨h1, h2⟩, h => by
    rcases List.mem_cons.1 h with h | h
    · subst h; exact h1
    · exact PureIs.at_ h2 h
theorem flat_pure {α : Type} {T : Ty α} (hT : ∀ x, PureVs (T.cells x)) {φ φ' : Fz} : ∀ (ys : List α) (us : List Value), Alls φ (ys.flatMap T.cells) us → Alls φ' (ys.flatMap T.cells) us
  | [], us, hh => by
    match us, hh with
    | [], _ => trivial
  | y :: ys, us, hh => by
    rw [List.flatMap_cons] at hh ⊢
    have hl : (T.cells y).length = T.size := T.len y
    have e1 := hh.take T.size
    have e2 := hh.drop T.size
    rw [← hl, List.take_left] at e1
    rw [← hl, List.drop_left] at e2
    have e3 := (hT y).alls (φ' := φ') e1
    have e4 := flat_pure hT (φ' := φ') ys _ e2
    have := e3.append e4
    rwa [List.take_append_drop] at this
theorem HP.pure {φ φ1 φ' : Fz} {M : List Item} {w w' : World} (hb : ∀ b i v, φ b i = some v → w.cell? ⟨b, i, none⟩ = some v) (hle : Fle φ φ1) (h : HP ⟨w, φ1, [], []⟩ φ' M w') (hM : PureIs M) : HP ⟨w, φ, [], []⟩ φ M w' := by
  refine ⟨⟨fun b i v e => ?_, fun it hi => ?_, h.mem.sep⟩, h.kept, h.mine, fun _ _ _ => rfl⟩
  · exact h.mem.base b i v (by rw [h.old b i (cell_lt (hb b i v e))]; exact hle _ _ _ e)
  · obtain ⟨h1, h2⟩ := h.mem.items it hi
    refine ⟨hM.at_ hi _ _ _ h1, fun b hat => ⟨(h2 b hat).1, fun i => ?_⟩⟩
    rcases h.mine b (mem_names.2 ⟨it, hi, hat⟩) with h3 | h3
    · cases hq : φ b i with
      | none => rfl
      | some v => exact absurd (cell_lt (hb b i v hq)) (Nat.not_lt.2 h3)
    · cases h3
section
variable {P : Program} {c : Ctx} {A : Nat → Option VP} {L : List Item} {d : Option Tmp} {ty : TypeId} {pos : String} {af : Array Edge} {g : Option (Nat × Bool)}
end
section
variable {P : Program} {c : Ctx} {A : Nat → Option VP} {L : List Item} {d : Option Tmp} {ty : TypeId} {pos : String} {af : Array Edge} {g : Option (Nat × Bool)} {α : Type} {T : Ty α} {xs ys : List α}
end
theorem Fn.weak {P : Program} {f : FuncId} {As : List VP} {L : List Item} {ι : Type} {R R' : ι → VP} {L' : ι → List Item} (h : Fn P f As L R L') (hs : ∀ i φ v, (R i).ok φ v → (R' i).ok φ v) : Fn P f As L R' L' := fun φ w vs ha hm =>
  (h φ w vs ha hm).mono fun e w' ⟨i, v, φ', h1, h2, h3⟩ => ⟨i, v, φ', h1, hs i _ _ h2, h3⟩
end Go.Proofs.YtfglhiciagmicaaGreat

/- Contracts: completions that fit a batch; conversations of one batch. Own work. -/
namespace Go.Proofs.YtfglhiciagmicaaGreat
open Go.RowKit
set_option linter.unusedVariables false
set_option linter.unusedSimpArgs false
set_option maxRecDepth 100000
def firV : List Dn → Int
  | [] => 0
  | d :: ds => if d.code ≠ 0 then d.code else firV ds
theorem drop_cons {α : Type} {S : List α} {k : Nat} {s : α} (hz : S[k]? = some s) : S.drop k = s :: S.drop (k + 1) := by
  obtain ⟨hk, e⟩ := List.getElem?_eq_some_iff.1 hz
  rw [List.drop_eq_getElem_cons hk, e]
-- verb.First: function 68
theorem First_ok (ds : List Dn) : FnP Tryz.prog 68 [IsSl tDn ds] (Is (.int .i64 (firV ds))) := by
  refine FnP.enter Tryz.func68 Tryz.ntmps68 rfl rfl ?_
  intro c hX
  refine JC_len (t := 0) rfl (fun hlen => ?_)
  refine JC_seq ?_
  refine JC_region ?_
  refine JL_1 rfl (op_assign rfl) ?_
  refine JL_nil ?_
  refine JQ_then (JC_seq (JC_seq ?_))
  refine JC_region ?_
  refine JL_1 rfl (op_move rfl) ?_
  refine JL_1 rfl (by exact op_len (Ev.rfl' rfl) rfl) ?_
  refine JL_1 rfl (op_move rfl) ?_
  refine JL_nil ?_
  refine JQ_then (JC_block ?_)
  refine JC_loopP (fun k : Nat => k ≤ ds.length ∧ firV ds = firV (ds.drop k)) (fun k => [(5, IsSl tDn ds), (6, Is (.int .i64 (ds.length : Nat))), (7, Is (.int .i64 (k : Nat)))]) (fun _ => []) (fun k => ds.length - k) 0 ⟨Nat.zero_le _, rfl⟩ esubT lessT ?_
  rintro k ⟨hk, hs⟩
  refine JC_seq ?_
  refine JC_region ?_
  refine JL_1 rfl (op_lss (Ev.rfl' rfl) (Ev.rfl' rfl)) ?_
  refine JL_nil ?_
  refine JQ_then (JC_seq ?_)
  refine JC_cond (Ev.rfl' rfl) (fun h2 => ?_) (fun h2 => ?_)
  · have hlt : k < ds.length := by have := of_decide_eq_true h2; omega
    clear h2
    obtain ⟨z, hz⟩ : ∃ z, ds[k]? = some z := ⟨ds[k], List.getElem?_eq_getElem hlt⟩
    rw [drop_cons hz] at hs
    rw [show firV (z :: ds.drop (k + 1)) = if z.code ≠ 0 then z.code else firV (ds.drop (k + 1)) from rfl] at hs
    refine JC_skip (JQ_then (JC_seq (JC_block (JC_seq ?_))))
    refine JC_region ?_
    refine JL_1 rfl (by exact op_index (j := _) (Ev.rfl' rfl) (Ev.rfl' rfl) rfl rfl (by rfl) hz) ?_
    refine JL_1 rfl (by exact op_loadRefsN (n := 2) (Ev.rfl' rfl) rfl rfl rfl (by rfl) nrmT) ?_
    (refine JL_n rfl (op_allocN rfl nrmT rfl) ?_; intro i4)
    refine JL_s0 (op_storeN (Ev.rfl' rfl) (Ev.rfl' rfl) cellsT replT nrmT (by rfl) (by rfl) (by rfl)) ?_
    refine JL_nil ?_
    refine JQ_then (JC_seq ?_)
    refine JC_region ?_
    refine JL_1 rfl (by exact op_fieldPtr (k := 0) (Ev.rfl' rfl) rfl rfl rfl rfl) ?_
    refine JL_1 rfl (by exact op_loadPtr (Ev.rfl' rfl) memT (by rfl) (by rfl) (by rfl)) ?_
    refine JL_1 rfl (op_neq (Ev.rfl' rfl) (Ev.rfl' rfl)) ?_
    refine JL_nil ?_
    refine JQ_then ?_
    refine JC_cond (Ev.rfl' rfl) (fun h4 => ?_) (fun h4 => ?_)
    · have g : z.code ≠ 0 := by simpa using h4
      rw [if_pos g] at hs
      rw [hs]
      refine JC_seq ?_
      refine JC_region ?_
      refine JL_1 rfl (by exact op_fieldPtr (k := 0) (Ev.rfl' rfl) rfl rfl rfl rfl) ?_
      refine JL_1 rfl (by exact op_loadPtr (Ev.rfl' rfl) memT (by rfl) (by rfl) (by rfl)) ?_
      refine JL_1 rfl (op_assign rfl) ?_
      refine JL_nil ?_
      refine JQ_then (JC_ret (JQ_block_ret (JQ_then_ret (JQ_then_ret (JQ_block_ret (JQ_then_ret ?_))))))
      refine JQ_ret1 Tryz.results68 rfl () (SubL.eq ?_) (List.nil_sublist _)
      rfl
    have g : ¬ z.code ≠ 0 := by simpa using h4
    rw [if_neg g] at hs
    clear h4
    refine JC_skip (JQ_block (JQ_then ?_))
    refine JC_region ?_
    refine JL_1 rfl (op_add (Ev.rfl' rfl) (Ev.rfl' rfl) wrapT) ?_
    refine JL_1 rfl (op_move rfl) ?_
    refine JL_nil ?_
    exact JQ_roundP (k + 1) ⟨by omega, hs⟩ (by omega) esubT lessT
  have hke : k = ds.length := by have := of_decide_eq_false h2; omega
  subst hke
  rw [List.drop_length] at hs
  rw [hs]
  refine JC_exit (JQ_then_exit (JQ_then_exit (JQ_hit (JQ_then (JC_seq ?_)))))
  refine JC_region ?_
  refine JL_1 rfl (op_assign rfl) ?_
  refine JL_nil ?_
  refine JQ_then (JC_ret ?_)
  refine JQ_ret1 Tryz.results68 rfl () (SubL.eq ?_) (List.nil_sublist _)
  rfl
-- bodegaref4.First: function 38
theorem FirstR_ok (ds : List Dn) : FnP Tryz.prog 38 [IsSl tDn ds] (Is (.int .i64 (firV ds))) := by
  refine FnP.enter Tryz.func38 Tryz.ntmps38 rfl rfl ?_
  intro c hX
  refine JC_len (t := 0) rfl (fun hlen => ?_)
  refine JC_seq ?_
  refine JC_region ?_
  refine JL_1 rfl (op_assign rfl) ?_
  refine JL_nil ?_
  refine JQ_then (JC_seq (JC_seq ?_))
  refine JC_region ?_
  refine JL_1 rfl (op_assign rfl) ?_
  refine JL_nil ?_
  refine JQ_then (JC_block ?_)
  refine JC_loopP (fun k : Nat => k ≤ ds.length ∧ firV ds = firV (ds.drop k)) (fun k => [(0, IsSl tDn ds), (3, Is (.int .i64 (k : Nat)))]) (fun _ => []) (fun k => ds.length - k) 0 ⟨Nat.zero_le _, rfl⟩ esubT lessT ?_
  rintro k ⟨hk, hs⟩
  refine JC_seq (JC_seq ?_)
  refine JC_region ?_
  refine JL_1 rfl (op_move rfl) ?_
  refine JL_1 rfl (op_move rfl) ?_
  refine JL_1 rfl (by exact op_len (Ev.rfl' rfl) rfl) ?_
  refine JL_1 rfl (op_lss (Ev.rfl' rfl) (Ev.rfl' rfl)) ?_
  refine JL_nil ?_
  refine JQ_then ?_
  refine JC_cond (Ev.rfl' rfl) (fun h2 => ?_) (fun h2 => ?_)
  · have hlt : k < ds.length := by have := of_decide_eq_true h2; omega
    clear h2
    obtain ⟨z, hz⟩ : ∃ z, ds[k]? = some z := ⟨ds[k], List.getElem?_eq_getElem hlt⟩
    rw [drop_cons hz] at hs
    rw [show firV (z :: ds.drop (k + 1)) = if z.code ≠ 0 then z.code else firV (ds.drop (k + 1)) from rfl] at hs
    refine JC_skip (JQ_then (JC_seq (JC_block (JC_seq ?_))))
    refine JC_region ?_
    refine JL_1 rfl (op_move rfl) ?_
    refine JL_1 rfl (op_move rfl) ?_
    refine JL_1 rfl (by exact op_index (j := _) (Ev.rfl' rfl) (Ev.rfl' rfl) rfl rfl (by rfl) hz) ?_
    refine JL_1 rfl (by exact op_fieldRefN (k := 0) (Ev.rfl' rfl) rfl rfl rfl rfl nrmT) ?_
    refine JL_1 rfl (by exact op_loadRef (Ev.rfl' rfl) rfl rfl rfl) ?_
    refine JL_1 rfl (op_neq (Ev.rfl' rfl) (Ev.rfl' rfl)) ?_
    refine JL_nil ?_
    refine JQ_then ?_
    refine JC_cond (Ev.rfl' rfl) (fun h4 => ?_) (fun h4 => ?_)
    · have g : z.code ≠ 0 := by simpa using h4
      rw [if_pos g] at hs
      rw [hs]
      refine JC_seq ?_
      refine JC_region ?_
      refine JL_1 rfl (op_move rfl) ?_
      refine JL_1 rfl (op_move rfl) ?_
      refine JL_1 rfl (by exact op_index (j := _) (Ev.rfl' rfl) (Ev.rfl' rfl) rfl rfl (by rfl) hz) ?_
      refine JL_1 rfl (by exact op_fieldRefN (k := 0) (Ev.rfl' rfl) rfl rfl rfl rfl nrmT) ?_
      refine JL_1 rfl (by exact op_loadRef (Ev.rfl' rfl) rfl rfl rfl) ?_
      refine JL_1 rfl (op_assign rfl) ?_
      refine JL_nil ?_
      refine JQ_then (JC_ret (JQ_block_ret (JQ_then_ret (JQ_then_ret (JQ_block_ret (JQ_then_ret ?_))))))
      refine JQ_ret1 Tryz.results38 rfl () (SubL.eq ?_) (List.nil_sublist _)
      rfl
    have g : ¬ z.code ≠ 0 := by simpa using h4
    rw [if_neg g] at hs
    clear h4
    refine JC_skip (JQ_block (JQ_then ?_))
    refine JC_region ?_
    refine JL_1 rfl (op_move rfl) ?_
    refine JL_1 rfl (op_add (Ev.rfl' rfl) (Ev.rfl' rfl) wrapT) ?_
    refine JL_1 rfl (op_assign rfl) ?_
    refine JL_nil ?_
    exact JQ_roundP (k + 1) ⟨by omega, hs⟩ (by omega) esubT lessT
  have hke : k = ds.length := by have := of_decide_eq_false h2; omega
  subst hke
  rw [List.drop_length] at hs
  rw [hs]
  refine JC_exit (JQ_then_exit (JQ_then_exit (JQ_hit (JQ_then (JC_seq ?_)))))
  refine JC_region ?_
  refine JL_1 rfl (op_assign rfl) ?_
  refine JL_nil ?_
  refine JQ_then (JC_ret ?_)
  refine JQ_ret1 Tryz.results38 rfl () (SubL.eq ?_) (List.nil_sublist _)
  rfl
/-- How many words a completion has: of a Read, of a Write. -/
def retN (v : GVerb) : Int := if v.kind = 1 then v.n else 0
-- verb.Returns: function 122
theorem Returns_ok (v : GVerb) (hk : v.kind = 1 ∨ v.kind = 2) : FnP Tryz.prog 122 [IsGVerb v] (Is (.int .i64 (retN v))) := by
  refine FnP.enter Tryz.func122 Tryz.ntmps122 rfl rfl ?_
  intro c hX
  refine JC_seq ?_
  refine JC_region ?_
  (refine JL_n rfl (op_box (Ev.rfl' rfl) cellsT) ?_; intro i1)
  refine JL_1 rfl (op_assign rfl) ?_
  refine JL_nil ?_
  refine JQ_then (JC_seq (JC_seq ?_))
  refine JC_region ?_
  refine JL_1 rfl (by exact op_fieldPtr (k := 0) (Ev.rfl' rfl) rfl rfl rfl rfl) ?_
  refine JL_1 rfl (by exact op_loadPtr (Ev.rfl' rfl) memT (by rfl) (by rfl) (by rfl)) ?_
  refine JL_nil ?_
  refine JQ_then (JC_block (JC_seq ?_))
  refine JC_region ?_
  refine JL_1 rfl (op_eql (Ev.rfl' rfl) (Ev.rfl' rfl)) ?_
  refine JL_1 rfl (op_assign rfl) ?_
  refine JL_nil ?_
  refine JQ_then ?_
  refine JC_cond (Ev.rfl' rfl) (fun h2 => ?_) (fun h2 => ?_)
  · refine JC_seq ?_
    refine JC_region ?_
    refine JL_1 rfl (by exact op_fieldPtr (k := 3) (Ev.rfl' rfl) rfl rfl rfl rfl) ?_
    refine JL_1 rfl (by exact op_loadPtr (Ev.rfl' rfl) memT (by rfl) (by rfl) (by rfl)) ?_
    refine JL_1 rfl (op_assign rfl) ?_
    refine JL_nil ?_
    refine JQ_then (JC_ret (JQ_block_ret (JQ_then_ret ?_)))
    refine JQ_ret1 Tryz.results122 rfl () (SubL.eq ?_) (List.nil_sublist _)
    unfold retN; simp at *; (rw [if_pos (by assumption)])
  refine JC_seq (JC_seq ?_)
  refine JC_region ?_
  refine JL_1 rfl (op_eql (Ev.rfl' rfl) (Ev.rfl' rfl)) ?_
  refine JL_1 rfl (op_assign rfl) ?_
  refine JL_nil ?_
  refine JQ_then ?_
  refine JC_cond (Ev.rfl' rfl) (fun h4 => ?_) (fun h4 => ?_)
  · refine JC_skip (JQ_then ?_)
    refine JC_cond (Ev.rfl' rfl) (fun h4 => ?_) (fun h4 => ?_)
    · refine JC_seq ?_
      refine JC_region ?_
      refine JL_1 rfl (op_assign rfl) ?_
      refine JL_nil ?_
      refine JQ_then (JC_ret (JQ_block_ret (JQ_then_ret ?_)))
      refine JQ_ret1 Tryz.results122 rfl () (SubL.eq ?_) (List.nil_sublist _)
      unfold retN; simp at *; ((exfalso; omega))
    refine JC_skip (JQ_block (JQ_then (JC_seq ?_)))
    refine JC_region ?_
    refine JL_1 rfl (op_assign rfl) ?_
    refine JL_nil ?_
    refine JQ_then (JC_ret ?_)
    refine JQ_ret1 Tryz.results122 rfl () (SubL.eq ?_) (List.nil_sublist _)
    unfold retN; simp at *; ((exfalso; omega))
  refine JC_region ?_
  refine JL_1 rfl (op_eql (Ev.rfl' rfl) (Ev.rfl' rfl)) ?_
  refine JL_1 rfl (op_assign rfl) ?_
  refine JL_nil ?_
  refine JQ_then ?_
  refine JC_cond (Ev.rfl' rfl) (fun h5 => ?_) (fun h5 => ?_)
  · refine JC_seq ?_
    refine JC_region ?_
    refine JL_1 rfl (op_assign rfl) ?_
    refine JL_nil ?_
    refine JQ_then (JC_ret (JQ_block_ret (JQ_then_ret ?_)))
    refine JQ_ret1 Tryz.results122 rfl () (SubL.eq ?_) (List.nil_sublist _)
    unfold retN; simp at *; ((exfalso; omega))
  refine JC_skip (JQ_block (JQ_then (JC_seq ?_)))
  refine JC_region ?_
  refine JL_1 rfl (op_assign rfl) ?_
  refine JL_nil ?_
  refine JQ_then (JC_ret ?_)
  refine JQ_ret1 Tryz.results122 rfl () (SubL.eq ?_) (List.nil_sublist _)
  unfold retN; simp at *; (rw [if_neg (by assumption)])
-- bodegaref4.Returns: function 106
theorem ReturnsR_ok (v : GVerb) (hk : v.kind = 1 ∨ v.kind = 2) : FnP Tryz.prog 106 [IsGVerb v] (Is (.int .i64 (retN v))) := by
  refine FnP.enter Tryz.func106 Tryz.ntmps106 rfl rfl ?_
  intro c hX
  refine JC_seq ?_
  refine JC_region ?_
  (refine JL_n rfl (op_box (Ev.rfl' rfl) cellsT) ?_; intro i1)
  refine JL_1 rfl (op_assign rfl) ?_
  refine JL_nil ?_
  refine JQ_then (JC_seq (JC_seq ?_))
  refine JC_region ?_
  refine JL_1 rfl (by exact op_fieldPtr (k := 0) (Ev.rfl' rfl) rfl rfl rfl rfl) ?_
  refine JL_1 rfl (by exact op_loadPtr (Ev.rfl' rfl) memT (by rfl) (by rfl) (by rfl)) ?_
  refine JL_nil ?_
  refine JQ_then (JC_block (JC_seq ?_))
  refine JC_region ?_
  refine JL_1 rfl (op_eql (Ev.rfl' rfl) (Ev.rfl' rfl)) ?_
  refine JL_1 rfl (op_assign rfl) ?_
  refine JL_nil ?_
  refine JQ_then ?_
  refine JC_cond (Ev.rfl' rfl) (fun h2 => ?_) (fun h2 => ?_)
  · refine JC_seq ?_
    refine JC_region ?_
    refine JL_1 rfl (by exact op_fieldPtr (k := 3) (Ev.rfl' rfl) rfl rfl rfl rfl) ?_
    refine JL_1 rfl (by exact op_loadPtr (Ev.rfl' rfl) memT (by rfl) (by rfl) (by rfl)) ?_
    refine JL_1 rfl (op_assign rfl) ?_
    refine JL_nil ?_
    refine JQ_then (JC_ret (JQ_block_ret (JQ_then_ret ?_)))
    refine JQ_ret1 Tryz.results106 rfl () (SubL.eq ?_) (List.nil_sublist _)
    unfold retN; simp at *; (rw [if_pos (by assumption)])
  refine JC_seq ?_
  refine JC_region ?_
  refine JL_1 rfl (op_eql (Ev.rfl' rfl) (Ev.rfl' rfl)) ?_
  refine JL_1 rfl (op_assign rfl) ?_
  refine JL_nil ?_
  refine JQ_then ?_
  refine JC_cond (Ev.rfl' rfl) (fun h4 => ?_) (fun h4 => ?_)
  · refine JC_seq ?_
    refine JC_region ?_
    refine JL_1 rfl (op_assign rfl) ?_
    refine JL_nil ?_
    refine JQ_then (JC_ret (JQ_block_ret (JQ_then_ret ?_)))
    refine JQ_ret1 Tryz.results106 rfl () (SubL.eq ?_) (List.nil_sublist _)
    unfold retN; simp at *; (rw [if_neg (by assumption)])
  refine JC_skip (JQ_block (JQ_then (JC_seq ?_)))
  refine JC_region ?_
  refine JL_1 rfl (op_assign rfl) ?_
  refine JL_nil ?_
  refine JQ_then (JC_ret ?_)
  refine JQ_ret1 Tryz.results106 rfl () (SubL.eq ?_) (List.nil_sublist _)
  unfold retN; simp at *; ((exfalso; omega))
end Go.Proofs.YtfglhiciagmicaaGreat

/- Contracts: completions that fit a batch. Own work. -/
namespace Go.Proofs.YtfglhiciagmicaaGreat
open Go.RowKit
set_option linter.unusedVariables false
set_option linter.unusedSimpArgs false
set_option maxRecDepth 100000
def fitsB (v : GVerb) (d : Dn) : Bool := if d.code = 0 then decide ((d.words.length : Int) = retN v) else if d.code = 4 ∨ d.code = 5 then decide (d.words.length = 0) else false
def fitL : List GVerb → List Dn → Bool
  | [], [] => true
  | v :: vs, d :: ds => fitsB v d && fitL vs ds
  | _, _ => false
def RW (vs : List GVerb) : Prop := ∀ v, v ∈ vs → v.kind = 1 ∨ v.kind = 2
theorem fitL_len : ∀ {vs : List GVerb} {ds : List Dn}, vs.length ≠ ds.length → fitL vs ds = false
  | [], [], h => absurd rfl h
  | [], d :: ds, _ => rfl
  | v :: vs, [], _ => rfl
  | v :: vs, d :: ds, h => by
    have := fitL_len (vs := vs) (ds := ds) (by simpa using h)
    unfold fitL
    rw [this, Bool.and_false]
-- verb.fits: function 105
theorem fits_ok (v : GVerb) (d : Dn) (hk : v.kind = 1 ∨ v.kind = 2) : FnP Tryz.prog 105 [IsGVerb v, IsDn d] (Is (.bool (fitsB v d))) := by
  refine FnP.enter Tryz.func105 Tryz.ntmps105 rfl rfl ?_
  intro c hX
  refine JC_seq ?_
  refine JC_region ?_
  (refine JL_n rfl (op_box (Ev.rfl' rfl) cellsT) ?_; intro i2)
  (refine JL_n rfl (op_box (Ev.rfl' rfl) cellsT) ?_; intro i3)
  refine JL_1 rfl (op_assign rfl) ?_
  refine JL_nil ?_
  refine JQ_then (JC_seq (JC_seq ?_))
  refine JC_region ?_
  refine JL_1 rfl (by exact op_fieldPtr (k := 0) (Ev.rfl' rfl) rfl rfl rfl rfl) ?_
  refine JL_1 rfl (by exact op_loadPtr (Ev.rfl' rfl) memT (by rfl) (by rfl) (by rfl)) ?_
  refine JL_nil ?_
  refine JQ_then (JC_block (JC_seq ?_))
  refine JC_region ?_
  refine JL_1 rfl (op_eql (Ev.rfl' rfl) (Ev.rfl' rfl)) ?_
  refine JL_1 rfl (op_assign rfl) ?_
  refine JL_nil ?_
  refine JQ_then ?_
  refine JC_cond (Ev.rfl' rfl) (fun h2 => ?_) (fun h2 => ?_)
  · have g : d.code = 0 := by simpa using h2
    have e : fitsB v d = decide ((d.words.length : Int) = retN v) := by unfold fitsB; rw [if_pos g]
    rw [e]
    refine JC_seq ?_
    refine JC_dr rfl (by kernel_rfl) ?_
    refine JD_stretch 7 (by kernel_rfl) ?_
    refine JW_1 (by exact op_fieldPtr (k := 1) (Ev.rfl' rfl) rfl rfl rfl rfl) ?_
    refine JW_1 (by exact op_loadPtr (Ev.rfl' rfl) memT (by rfl) (by rfl) (by rfl)) ?_
    refine JW_1 (by exact op_len (Ev.rfl' rfl) rfl) ?_
    refine JW_1 (by exact op_loadPtrsN (n := 9) (Ev.rfl' rfl) memT (by rfl) (by rfl) (by rfl) (by rfl) nrmT) ?_
    refine JW_1 (op_call Tryz.call122 (Returns_ok v hk) ⟨evS, trivial⟩) ?_
    refine JW_1 (op_eql (Ev.rfl' rfl) (Ev.rfl' rfl)) ?_
    refine JW_1 (op_assign rfl) ?_
    refine ⟨rfl, ?_⟩
    refine JD_end ?_
    refine JQ_then (JC_ret (JQ_block_ret (JQ_then_ret ?_)))
    refine JQ_ret1 Tryz.results105 rfl () (SubL.eq ?_) (List.nil_sublist _)
    rfl
  have g : ¬ d.code = 0 := by simpa using h2
  refine JC_seq (JC_seq ?_)
  refine JC_region ?_
  refine JL_1 rfl (op_eql (Ev.rfl' rfl) (Ev.rfl' rfl)) ?_
  refine JL_1 rfl (op_assign rfl) ?_
  refine JL_nil ?_
  refine JQ_then ?_
  refine JC_cond (Ev.rfl' rfl) (fun h4 => ?_) (fun h4 => ?_)
  · refine JC_skip (JQ_then ?_)
    refine JC_cond (Ev.rfl' rfl) (fun h4 => ?_) (fun h4 => ?_)
    · refine JC_seq ?_
      refine JC_region ?_
      refine JL_1 rfl (by exact op_fieldPtr (k := 1) (Ev.rfl' rfl) rfl rfl rfl rfl) ?_
      refine JL_1 rfl (by exact op_loadPtr (Ev.rfl' rfl) memT (by rfl) (by rfl) (by rfl)) ?_
      refine JL_1 rfl (by exact op_len (Ev.rfl' rfl) rfl) ?_
      refine JL_1 rfl (op_eql (Ev.rfl' rfl) (Ev.rfl' rfl)) ?_
      refine JL_1 rfl (op_assign rfl) ?_
      refine JL_nil ?_
      refine JQ_then (JC_ret (JQ_block_ret (JQ_then_ret ?_)))
      refine JQ_ret1 Tryz.results105 rfl () (SubL.eq ?_) (List.nil_sublist _)
      have e : fitsB v d = decide (d.words.length = 0) := by
        unfold fitsB
        rw [if_neg g, if_pos]
        first
          | exact .inl (by simpa using h4)
          | exact .inr (by simpa using h5)
      rw [e]
      have e2 : ((d.words.length : Int) == 0) = decide (d.words.length = 0) := by rw [Bool.eq_iff_iff]; simp
      exact congrArg (fun b => Is (.bool b)) e2
    refine JC_skip (JQ_block (JQ_then (JC_seq ?_)))
    refine JC_region ?_
    refine JL_1 rfl (op_assign rfl) ?_
    refine JL_nil ?_
    refine JQ_then (JC_ret ?_)
    refine JQ_ret1 Tryz.results105 rfl () (SubL.eq ?_) (List.nil_sublist _)
    have e : fitsB v d = false := by
      unfold fitsB
      rw [if_neg g, if_neg]
      first
        | (simp at h4 h5; omega)
        | (exfalso; simp_all)
    rw [e]
  refine JC_region ?_
  refine JL_1 rfl (op_eql (Ev.rfl' rfl) (Ev.rfl' rfl)) ?_
  refine JL_1 rfl (op_assign rfl) ?_
  refine JL_nil ?_
  refine JQ_then ?_
  refine JC_cond (Ev.rfl' rfl) (fun h5 => ?_) (fun h5 => ?_)
  · refine JC_seq ?_
    refine JC_region ?_
    refine JL_1 rfl (by exact op_fieldPtr (k := 1) (Ev.rfl' rfl) rfl rfl rfl rfl) ?_
    refine JL_1 rfl (by exact op_loadPtr (Ev.rfl' rfl) memT (by rfl) (by rfl) (by rfl)) ?_
    refine JL_1 rfl (by exact op_len (Ev.rfl' rfl) rfl) ?_
    refine JL_1 rfl (op_eql (Ev.rfl' rfl) (Ev.rfl' rfl)) ?_
    refine JL_1 rfl (op_assign rfl) ?_
    refine JL_nil ?_
    refine JQ_then (JC_ret (JQ_block_ret (JQ_then_ret ?_)))
    refine JQ_ret1 Tryz.results105 rfl () (SubL.eq ?_) (List.nil_sublist _)
    have e : fitsB v d = decide (d.words.length = 0) := by
      unfold fitsB
      rw [if_neg g, if_pos]
      first
        | exact .inl (by simpa using h4)
        | exact .inr (by simpa using h5)
    rw [e]
    have e2 : ((d.words.length : Int) == 0) = decide (d.words.length = 0) := by rw [Bool.eq_iff_iff]; simp
    exact congrArg (fun b => Is (.bool b)) e2
  refine JC_skip (JQ_block (JQ_then (JC_seq ?_)))
  refine JC_region ?_
  refine JL_1 rfl (op_assign rfl) ?_
  refine JL_nil ?_
  refine JQ_then (JC_ret ?_)
  refine JQ_ret1 Tryz.results105 rfl () (SubL.eq ?_) (List.nil_sublist _)
  have e : fitsB v d = false := by
    unfold fitsB
    rw [if_neg g, if_neg]
    first
      | (simp at h4 h5; omega)
      | (exfalso; simp_all)
  rw [e]
-- verb.Fit: function 87
theorem Fit_ok (vs : List GVerb) (ds : List Dn) (hk : RW vs) : FnP Tryz.prog 87 [IsSl tGVerb vs, IsSl tDn ds] (Is (.bool (fitL vs ds))) := by
  refine FnP.enter Tryz.func87 Tryz.ntmps87 rfl rfl ?_
  intro c hX
  refine JC_len (t := 0) rfl (fun hlen => ?_)
  refine JC_len (t := 1) rfl (fun hlen2 => ?_)
  refine JC_seq ?_
  refine JC_region ?_
  refine JL_1 rfl (op_assign rfl) ?_
  refine JL_nil ?_
  refine JQ_then (JC_seq (JC_seq ?_))
  refine JC_region ?_
  refine JL_1 rfl (op_move rfl) ?_
  refine JL_1 rfl (by exact op_len (Ev.rfl' rfl) rfl) ?_
  refine JL_1 rfl (op_move rfl) ?_
  refine JL_1 rfl (by exact op_len (Ev.rfl' rfl) rfl) ?_
  refine JL_1 rfl (op_neq (Ev.rfl' rfl) (Ev.rfl' rfl)) ?_
  refine JL_nil ?_
  refine JQ_then ?_
  refine JC_cond (Ev.rfl' rfl) (fun h1 => ?_) (fun h1 => ?_)
  · have g : vs.length ≠ ds.length := by simp at h1; omega
    rw [fitL_len g]
    refine JC_seq ?_
    refine JC_region ?_
    refine JL_1 rfl (op_assign rfl) ?_
    refine JL_nil ?_
    refine JQ_then (JC_ret (JQ_then_ret ?_))
    refine JQ_ret1 Tryz.results87 rfl () (SubL.eq ?_) (List.nil_sublist _)
    rfl
  have g : vs.length = ds.length := by simp at h1; omega
  clear h1
  refine JC_skip (JQ_then (JC_seq (JC_seq ?_)))
  refine JC_region ?_
  refine JL_1 rfl (op_move rfl) ?_
  refine JL_1 rfl (by exact op_len (Ev.rfl' rfl) rfl) ?_
  refine JL_1 rfl (op_move rfl) ?_
  refine JL_nil ?_
  refine JQ_then (JC_block ?_)
  refine JC_loopP (fun k : Nat => k ≤ vs.length ∧ fitL vs ds = fitL (vs.drop k) (ds.drop k)) (fun k => [(1, IsSl tDn ds), (12, IsSl tGVerb vs), (13, Is (.int .i64 (vs.length : Nat))), (14, Is (.int .i64 (k : Nat)))]) (fun _ => []) (fun k => vs.length - k) 0 ⟨Nat.zero_le _, rfl⟩ esubT lessT ?_
  rintro k ⟨hkl, hs⟩
  refine JC_seq ?_
  refine JC_region ?_
  refine JL_1 rfl (op_lss (Ev.rfl' rfl) (Ev.rfl' rfl)) ?_
  refine JL_nil ?_
  refine JQ_then (JC_seq ?_)
  refine JC_cond (Ev.rfl' rfl) (fun h4 => ?_) (fun h4 => ?_)
  · have hlt : k < vs.length := by have := of_decide_eq_true h4; omega
    clear h4
    obtain ⟨z, hz⟩ : ∃ z, vs[k]? = some z := ⟨vs[k], List.getElem?_eq_getElem hlt⟩
    obtain ⟨y, hy⟩ : ∃ z, ds[k]? = some z := ⟨ds[k]'(by omega), List.getElem?_eq_getElem _⟩
    rw [drop_cons hz, drop_cons hy] at hs
    rw [show fitL (z :: vs.drop (k + 1)) (y :: ds.drop (k + 1)) = (fitsB z y && fitL (vs.drop (k + 1)) (ds.drop (k + 1))) from rfl] at hs
    refine JC_skip (JQ_then (JC_seq (JC_block (JC_seq ?_))))
    refine JC_region ?_
    refine JL_1 rfl (op_move rfl) ?_
    refine JL_1 rfl (by exact op_index (j := _) (Ev.rfl' rfl) (Ev.rfl' rfl) rfl rfl (by rfl) hz) ?_
    refine JL_1 rfl (by exact op_loadRefsN (n := 9) (Ev.rfl' rfl) rfl rfl rfl (by rfl) nrmT) ?_
    (refine JL_n rfl (op_allocN rfl nrmT rfl) ?_; intro i6)
    refine JL_1 rfl (op_assign rfl) ?_
    refine JL_s0 (op_storeN (Ev.rfl' rfl) (Ev.rfl' rfl) cellsT replT nrmT (by rfl) (by rfl) (by rfl)) ?_
    refine JL_nil ?_
    refine JQ_then (JC_seq ?_)
    refine JC_dr rfl (by kernel_rfl) ?_
    refine JD_stretch 7 (by kernel_rfl) ?_
    refine JW_1 (by exact op_loadPtrsN (n := 9) (Ev.rfl' rfl) memT (by rfl) (by rfl) (by rfl) (by rfl) nrmT) ?_
    refine JW_1 (op_move rfl) ?_
    refine JW_1 (op_move rfl) ?_
    refine JW_1 (by exact op_index (j := _) (Ev.rfl' rfl) (Ev.rfl' rfl) rfl rfl (by rfl) hy) ?_
    refine JW_1 (by exact op_loadRefsN (n := 2) (Ev.rfl' rfl) rfl rfl rfl (by rfl) nrmT) ?_
    refine JW_1 (op_call Tryz.call105 (fits_ok z y (hk z (List.mem_of_getElem? hz))) ⟨evS, ⟨evS, trivial⟩⟩) ?_
    refine JW_1 (op_not (Ev.rfl' rfl)) ?_
    refine ⟨rfl, ?_⟩
    refine JD_end ?_
    refine JQ_then ?_
    refine JC_cond (Ev.rfl' rfl) (fun h6 => ?_) (fun h6 => ?_)
    · have g2 : fitsB z y = false := by simpa using h6
      rw [g2, Bool.false_and] at hs
      rw [hs]
      refine JC_seq ?_
      refine JC_region ?_
      refine JL_1 rfl (op_assign rfl) ?_
      refine JL_nil ?_
      refine JQ_then (JC_ret (JQ_block_ret (JQ_then_ret (JQ_then_ret (JQ_block_ret (JQ_then_ret ?_))))))
      refine JQ_ret1 Tryz.results87 rfl () (SubL.eq ?_) (List.nil_sublist _)
      rfl
    have g2 : fitsB z y = true := by simpa using h6
    rw [g2, Bool.true_and] at hs
    clear h6
    refine JC_skip (JQ_block (JQ_then ?_))
    refine JC_region ?_
    refine JL_1 rfl (op_add (Ev.rfl' rfl) (Ev.rfl' rfl) wrapT) ?_
    refine JL_1 rfl (op_move rfl) ?_
    refine JL_nil ?_
    exact JQ_roundP (k + 1) ⟨by omega, hs⟩ (by omega) esubT lessT
  have hke : k = vs.length := by have := of_decide_eq_false h4; omega
  subst hke
  rw [List.drop_length, g, List.drop_length] at hs
  rw [hs]
  refine JC_exit (JQ_then_exit (JQ_then_exit (JQ_hit (JQ_then (JC_seq ?_)))))
  refine JC_region ?_
  refine JL_1 rfl (op_assign rfl) ?_
  refine JL_nil ?_
  refine JQ_then (JC_ret ?_)
  refine JQ_ret1 Tryz.results87 rfl () (SubL.eq ?_) (List.nil_sublist _)
  rfl
-- bodegaref4.Fit: function 89
theorem FitR_ok (vs : List GVerb) (ds : List Dn) (hk : RW vs) : FnP Tryz.prog 89 [IsSl tGVerb vs, IsSl tDn ds] (Is (.bool (fitL vs ds))) := by
  refine FnP.enter Tryz.func89 Tryz.ntmps89 rfl rfl ?_
  intro c hX
  refine JC_len (t := 0) rfl (fun hlen => ?_)
  refine JC_len (t := 1) rfl (fun hlen2 => ?_)
  refine JC_seq ?_
  refine JC_region ?_
  refine JL_1 rfl (op_assign rfl) ?_
  refine JL_nil ?_
  refine JQ_then (JC_seq (JC_seq ?_))
  refine JC_region ?_
  refine JL_1 rfl (op_move rfl) ?_
  refine JL_1 rfl (by exact op_len (Ev.rfl' rfl) rfl) ?_
  refine JL_1 rfl (op_move rfl) ?_
  refine JL_1 rfl (by exact op_len (Ev.rfl' rfl) rfl) ?_
  refine JL_1 rfl (op_neq (Ev.rfl' rfl) (Ev.rfl' rfl)) ?_
  refine JL_nil ?_
  refine JQ_then ?_
  refine JC_cond (Ev.rfl' rfl) (fun h1 => ?_) (fun h1 => ?_)
  · have g : vs.length ≠ ds.length := by simp at h1; omega
    rw [fitL_len g]
    refine JC_seq ?_
    refine JC_region ?_
    refine JL_1 rfl (op_assign rfl) ?_
    refine JL_nil ?_
    refine JQ_then (JC_ret (JQ_then_ret ?_))
    refine JQ_ret1 Tryz.results89 rfl () (SubL.eq ?_) (List.nil_sublist _)
    rfl
  have g : vs.length = ds.length := by simp at h1; omega
  clear h1
  refine JC_skip (JQ_then (JC_seq (JC_seq ?_)))
  refine JC_region ?_
  refine JL_1 rfl (op_assign rfl) ?_
  refine JL_nil ?_
  refine JQ_then (JC_block ?_)
  refine JC_loopP (fun k : Nat => k ≤ vs.length ∧ fitL vs ds = fitL (vs.drop k) (ds.drop k)) (fun k => [(0, IsSl tGVerb vs), (1, IsSl tDn ds), (5, Is (.int .i64 (k : Nat)))]) (fun _ => []) (fun k => vs.length - k) 0 ⟨Nat.zero_le _, rfl⟩ esubT lessT ?_
  rintro k ⟨hkl, hs⟩
  refine JC_seq (JC_seq ?_)
  refine JC_region ?_
  refine JL_1 rfl (op_move rfl) ?_
  refine JL_1 rfl (op_move rfl) ?_
  refine JL_1 rfl (by exact op_len (Ev.rfl' rfl) rfl) ?_
  refine JL_1 rfl (op_lss (Ev.rfl' rfl) (Ev.rfl' rfl)) ?_
  refine JL_nil ?_
  refine JQ_then ?_
  refine JC_cond (Ev.rfl' rfl) (fun h4 => ?_) (fun h4 => ?_)
  · have hlt : k < vs.length := by have := of_decide_eq_true h4; omega
    clear h4
    obtain ⟨z, hz⟩ : ∃ z, vs[k]? = some z := ⟨vs[k], List.getElem?_eq_getElem hlt⟩
    obtain ⟨y, hy⟩ : ∃ z, ds[k]? = some z := ⟨ds[k]'(by omega), List.getElem?_eq_getElem _⟩
    rw [drop_cons hz, drop_cons hy] at hs
    rw [show fitL (z :: vs.drop (k + 1)) (y :: ds.drop (k + 1)) = (fitsB z y && fitL (vs.drop (k + 1)) (ds.drop (k + 1))) from rfl] at hs
    refine JC_skip (JQ_then (JC_seq (JC_block (JC_seq ?_))))
    refine JC_region ?_
    refine JL_1 rfl (op_move rfl) ?_
    refine JL_1 rfl (op_move rfl) ?_
    refine JL_1 rfl (by exact op_index (j := _) (Ev.rfl' rfl) (Ev.rfl' rfl) rfl rfl (by rfl) hy) ?_
    refine JL_1 rfl (by exact op_loadRefsN (n := 2) (Ev.rfl' rfl) rfl rfl rfl (by rfl) nrmT) ?_
    (refine JL_n rfl (op_allocN rfl nrmT rfl) ?_; intro i6)
    refine JL_s0 (op_storeN (Ev.rfl' rfl) (Ev.rfl' rfl) cellsT replT nrmT (by rfl) (by rfl) (by rfl)) ?_
    refine JL_nil ?_
    refine JQ_then (JC_seq (JC_seq ?_))
    refine JC_region ?_
    refine JL_1 rfl (by exact op_fieldPtr (k := 0) (Ev.rfl' rfl) rfl rfl rfl rfl) ?_
    refine JL_1 rfl (by exact op_loadPtr (Ev.rfl' rfl) memT (by rfl) (by rfl) (by rfl)) ?_
    refine JL_1 rfl (op_neq (Ev.rfl' rfl) (Ev.rfl' rfl)) ?_
    refine JL_1 rfl (op_move rfl) ?_
    (refine JL_i0 rfl rfl rfl (fun hg => (by have hg0 := hg; (try simp at hg); exact op_fieldPtr (k := 0) evG rfl rfl rfl rfl)) ?_)
    (refine JL_i0 rfl rfl rfl (fun hg => (by have hg0 := hg; (try simp at hg); exact op_loadPtr evG memT (by rfl) (by rfl) (by rfl))) ?_)
    (refine JL_i0 rfl rfl rfl (fun hg => (by have hg0 := hg; (try simp at hg); exact op_neq evG evG)) ?_)
    refine JL_1 rfl (op_and (Ev.rfl' rfl) rfl (fun h => by exact SubL.iteT (by (rw [h]; rfl)) SubL.rfl')) ?_
    refine JL_1 rfl (op_move rfl) ?_
    (refine JL_i0 rfl rfl rfl (fun hg => (by have hg0 := hg; (try simp at hg); exact op_fieldPtr (k := 0) evG rfl rfl rfl rfl)) ?_)
    (refine JL_i0 rfl rfl rfl (fun hg => (by have hg0 := hg; (try simp at hg); exact op_loadPtr evG memT (by rfl) (by rfl) (by rfl))) ?_)
    (refine JL_i0 rfl rfl rfl (fun hg => (by have hg0 := hg; (try simp at hg); exact op_neq evG evG)) ?_)
    refine JL_1 rfl (op_and (Ev.rfl' rfl) rfl (fun h => by exact SubL.iteT (by (rw [h]; rfl)) SubL.rfl')) ?_
    refine JL_nil ?_
    refine JQ_then ?_
    refine JC_cond (Ev.rfl' rfl) (fun h7 => ?_) (fun h7 => ?_)
    · have g2 : fitsB z y = false := by
        unfold fitsB
        simp at h7
        rw [if_neg (by omega), if_neg (by omega)]
      rw [g2, Bool.false_and] at hs
      rw [hs]
      refine JC_seq ?_
      refine JC_region ?_
      refine JL_1 rfl (op_assign rfl) ?_
      refine JL_nil ?_
      refine JQ_then (JC_ret (JQ_then_ret (JQ_block_ret (JQ_then_ret (JQ_then_ret (JQ_block_ret (JQ_then_ret ?_)))))))
      refine JQ_ret1 Tryz.results89 rfl () (SubL.eq ?_) (List.nil_sublist _)
      rfl
    have g3 : y.code = 0 ∨ y.code = 4 ∨ y.code = 5 := by simp at h7; omega
    clear h7
    refine JC_skip (JQ_then (JC_seq ?_))
    refine JC_dr rfl (by kernel_rfl) ?_
    refine JD_stretch 25 (by kernel_rfl) ?_
    refine JW_1 (by exact op_fieldPtr (k := 0) (Ev.rfl' rfl) rfl rfl rfl rfl) ?_
    refine JW_1 (by exact op_loadPtr (Ev.rfl' rfl) memT (by rfl) (by rfl) (by rfl)) ?_
    refine JW_1 (op_eql (Ev.rfl' rfl) (Ev.rfl' rfl)) ?_
    refine JW_1 (op_move rfl) ?_
    (refine JW_i0 rfl rfl (fun hg => (by have hg0 := hg; (try simp at hg); exact op_fieldPtr (k := 1) evG rfl rfl rfl rfl)) ?_)
    (refine JW_i0 rfl rfl (fun hg => (by have hg0 := hg; (try simp at hg); exact op_loadPtr evG memT (by rfl) (by rfl) (by rfl))) ?_)
    (refine JW_i0 rfl rfl (fun hg => (by have hg0 := hg; (try simp at hg); exact op_len evG rfl)) ?_)
    (refine JW_i0 rfl rfl (fun hg => (by have hg0 := hg; (try simp at hg); exact op_moveE (Ev.rfl' rfl))) ?_)
    (refine JW_i0 rfl rfl (fun hg => (by have hg0 := hg; (try simp at hg); exact op_moveE (Ev.rfl' rfl))) ?_)
    (refine JW_i0 rfl rfl (fun hg => (by have hg0 := hg; (try simp at hg); exact op_index (j := _) evG evG rfl rfl (by rfl) hz)) ?_)
    (refine JW_i0 rfl rfl (fun hg => (by have hg0 := hg; (try simp at hg); exact op_loadRefsN (n := 9) evG rfl rfl rfl (by rfl) nrmT)) ?_)
    (refine JW_i0 rfl rfl (fun hg => (by have hg0 := hg; (try simp at hg); exact op_call Tryz.call106 (ReturnsR_ok z (hk z (List.mem_of_getElem? hz))) ⟨evS, trivial⟩)) ?_)
    (refine JW_i0 rfl rfl (fun hg => (by have hg0 := hg; (try simp at hg); exact op_neq evG evG)) ?_)
    refine JW_1 (op_and (Ev.rfl' rfl) rfl (fun h => by exact SubL.iteT (by (rw [h]; rfl)) SubL.rfl')) ?_
    refine JW_1 (op_move rfl) ?_
    (refine JW_i0 rfl rfl (fun hg => (by have hg0 := hg; (try simp at hg); exact op_fieldPtr (k := 0) evG rfl rfl rfl rfl)) ?_)
    (refine JW_i0 rfl rfl (fun hg => (by have hg0 := hg; (try simp at hg); exact op_loadPtr evG memT (by rfl) (by rfl) (by rfl))) ?_)
    (refine JW_i0 rfl rfl (fun hg => (by have hg0 := hg; (try simp at hg); exact op_neq evG evG)) ?_)
    (refine JW_i0 rfl rfl (fun hg => (by have hg0 := hg; (try simp at hg); exact op_moveE (Ev.sub rfl (SubL.iteT (by assumption) SubL.rfl')))) ?_)
    (refine JW_i rfl rfl (fun hp hg => (by have hpg := Bool.and_eq_true_iff.2 ⟨hp, hg⟩; have hg0 := hg; (try simp at hg); exact op_fieldPtr (k := 1) evG rfl rfl rfl rfl)) ?_)
    (refine JW_i rfl rfl (fun hp hg => (by have hpg := Bool.and_eq_true_iff.2 ⟨hp, hg⟩; have hg0 := hg; (try simp at hg); exact op_loadPtr evG memT (by rfl) (by rfl) (by rfl))) ?_)
    (refine JW_i rfl rfl (fun hp hg => (by have hpg := Bool.and_eq_true_iff.2 ⟨hp, hg⟩; have hg0 := hg; (try simp at hg); exact op_len evG rfl)) ?_)
    (refine JW_i rfl rfl (fun hp hg => (by have hpg := Bool.and_eq_true_iff.2 ⟨hp, hg⟩; have hg0 := hg; (try simp at hg); exact op_neq evG evG)) ?_)
    (refine JW_i0 rfl rfl (fun hg => (by have hg0 := hg; (try simp at hg); exact op_and evG rfl (fun h => by exact SubL.iteT (by (simp_all; done)) SubL.rfl'))) ?_)
    refine JW_1 (op_or (Ev.rfl' rfl) rfl (fun h => by exact SubL.iteT (by (rw [h]; rfl)) SubL.rfl')) ?_
    refine ⟨rfl, ?_⟩
    refine JD_end ?_
    refine JQ_then ?_
    refine JC_cond (Ev.rfl' rfl) (fun h9 => ?_) (fun h9 => ?_)
    · have g2 : fitsB z y = false := by
        unfold fitsB
        simp at h9
        rcases h9 with ⟨a1, a2⟩ | ⟨a1, a2⟩
        · rw [if_pos a1]; exact decide_eq_false (by omega)
        · rw [if_neg a1, if_pos (by omega)]
          exact decide_eq_false (by simpa using a2)
      rw [g2, Bool.false_and] at hs
      rw [hs]
      refine JC_seq ?_
      refine JC_region ?_
      refine JL_1 rfl (op_assign rfl) ?_
      refine JL_nil ?_
      refine JQ_then (JC_ret (JQ_block_ret (JQ_then_ret (JQ_then_ret (JQ_block_ret (JQ_then_ret ?_))))))
      refine JQ_ret1 Tryz.results89 rfl () (SubL.eq ?_) (List.nil_sublist _)
      rfl
    have g2 : fitsB z y = true := by
      unfold fitsB
      simp at h9
      by_cases a : y.code = 0
      · rw [if_pos a]; exact decide_eq_true (by have := h9.1 a; omega)
      · rw [if_neg a, if_pos (by omega)]
        exact decide_eq_true (by have := h9.2 a; simpa using this)
    rw [g2, Bool.true_and] at hs
    clear h9
    refine JC_skip (JQ_block (JQ_then ?_))
    refine JC_region ?_
    refine JL_1 rfl (op_move rfl) ?_
    refine JL_1 rfl (op_add (Ev.rfl' rfl) (Ev.rfl' rfl) wrapT) ?_
    refine JL_1 rfl (op_assign rfl) ?_
    refine JL_nil ?_
    exact JQ_roundP (k + 1) ⟨by omega, hs⟩ (by omega) esubT lessT
  have hke : k = vs.length := by have := of_decide_eq_false h4; omega
  subst hke
  rw [List.drop_length, g, List.drop_length] at hs
  rw [hs]
  refine JC_exit (JQ_then_exit (JQ_then_exit (JQ_hit (JQ_then (JC_seq ?_)))))
  refine JC_region ?_
  refine JL_1 rfl (op_assign rfl) ?_
  refine JL_nil ?_
  refine JQ_then (JC_ret ?_)
  refine JQ_ret1 Tryz.results89 rfl () (SubL.eq ?_) (List.nil_sublist _)
  rfl
end Go.Proofs.YtfglhiciagmicaaGreat

/- Contracts: a conversation of one batch, by the program and by the reference. Own work. -/
namespace Go.Proofs.YtfglhiciagmicaaGreat
open Go.RowKit
set_option linter.unusedVariables false
set_option linter.unusedSimpArgs false
set_option maxRecDepth 100000
@[reducible] def tkC (got : List (List Dn)) (ask : List GVerb) (w : Bool) : List VP := [IsSl tDs got, IsSl tGVerb ask, Is (.bool w)]
-- talk.New: function 64
theorem TalkNew_ok (got : List (List Dn)) : Fn Tryz.prog 64 [IsSl tDs got] [] (fun b : Nat => Is (.pointer (some ⟨b, 0, none⟩))) (fun b => [blk b 156 (tkC got [] false)]) := by
  refine Fn.enterN Tryz.func64 Tryz.ntmps64 rfl rfl ?_
  intro c hX
  refine JC_seq ?_
  refine JC_region ?_
  refine JL_1 rfl (op_assign rfl) ?_
  refine JL_nil ?_
  refine JQ_then (JC_seq ?_)
  refine JC_region ?_
  refine JL_1 rfl (op_move rfl) ?_
  refine JL_1 rfl (op_buildN (qs := [(0, _)]) rfl rfl rfl rfl ⟨⟨rfl, _, (Ev.rfl' rfl), cellsT⟩, trivial⟩ (by rfl) nrmT) ?_
  (refine JL_n rfl (op_box (Ev.rfl' rfl) cellsT) ?_; intro i5)
  refine JL_1 rfl (op_assign rfl) ?_
  refine JL_nil ?_
  refine JQ_then (JC_ret ?_)
  refine JQ_blkSub (As' := tkC got [] false) replT subsT ?_
  exact JQ_retP (Bs := [Is (.pointer (some ⟨i5, 0, none⟩))]) Tryz.results64 ⟨⟨_, rfl, subT⟩, trivial⟩ i5 SubL.rfl' lessT
-- (*talk.Talk).Batch: function 65
theorem Batch0_ok (b : Nat) (vs : List GVerb) (hv : 0 < vs.length) : Fn Tryz.prog 65 [Is (.pointer (some ⟨b, 0, none⟩)), IsSl tGVerb vs] [blk b 156 (tkC [] [] false)] (fun _ : Unit => IsTup [IsSl tDn [], Is (.bool false)]) (fun _ => [blk b 156 (tkC [] vs false)]) := by
  refine Fn.enterN Tryz.func65 Tryz.ntmps65 rfl rfl ?_
  intro c hX
  refine JC_seq ?_
  refine JC_region ?_
  refine JL_1 rfl (op_assign rfl) ?_
  refine JL_1 rfl (op_assign rfl) ?_
  refine JL_nil ?_
  refine JQ_then (JC_seq (JC_block (JC_seq ?_)))
  refine JC_region ?_
  refine JL_1 rfl (op_move rfl) ?_
  refine JL_1 rfl (by exact op_len (Ev.rfl' rfl) rfl) ?_
  refine JL_1 rfl (op_eql (Ev.rfl' rfl) (Ev.rfl' rfl)) ?_
  refine JL_1 rfl (op_assign rfl) ?_
  refine JL_nil ?_
  refine JQ_then ?_
  refine JC_cond (Ev.rfl' rfl) (fun h1 => ?_) (fun h1 => ?_)
  · exact absurd h1 (by simp; intro e; rw [e] at hv; simp at hv)
  refine JC_seq ?_
  refine JC_region ?_
  refine JL_1 rfl (op_move rfl) ?_
  refine JL_1 rfl (by exact op_nilCheck (Ev.rfl' rfl)) ?_
  refine JL_1 rfl (by exact op_fieldPtr (k := 0) (Ev.rfl' rfl) rfl rfl rfl rfl) ?_
  refine JL_1 rfl (by exact op_loadPtr (Ev.rfl' rfl) memT (by rfl) (by rfl) (by rfl)) ?_
  refine JL_1 rfl (by exact op_len (Ev.rfl' rfl) rfl) ?_
  refine JL_1 rfl (op_eql (Ev.rfl' rfl) (Ev.rfl' rfl)) ?_
  refine JL_1 rfl (op_assign rfl) ?_
  refine JL_nil ?_
  refine JQ_then ?_
  refine JC_cond (Ev.rfl' rfl) (fun h3 => ?_) (fun h3 => ?_)
  · refine JC_seq ?_
    refine JC_region ?_
    refine JL_1 rfl (op_move rfl) ?_
    refine JL_1 rfl (op_move rfl) ?_
    refine JL_1 rfl (by exact op_nilCheck (Ev.rfl' rfl)) ?_
    refine JL_1 rfl (by exact op_fieldPtr (k := 1) (Ev.rfl' rfl) rfl rfl rfl rfl) ?_
    refine JL_s0 (op_storeN (Ev.rfl' rfl) (Ev.rfl' rfl) cellsT replT nrmT (by rfl) (by rfl) (by rfl)) ?_
    refine JL_nil ?_
    refine JQ_then (JC_seq ?_)
    refine JC_region ?_
    refine JL_1 rfl (op_assign rfl) ?_
    refine JL_1 rfl (op_assign rfl) ?_
    refine JL_nil ?_
    refine JQ_then (JC_ret (JQ_block_ret (JQ_then_ret ?_)))
    exact JQ_retP (Bs := [IsSl tDn [], Is (.bool false)]) Tryz.results65 ⟨⟨_, rfl, subT⟩, ⟨⟨_, rfl, subT⟩, trivial⟩⟩ () SubL.rfl' lessT
  exact absurd h3 (by simp)
def batD (vs : List GVerb) (d : List Dn) : List Dn := if fitL vs d = true then d else []
def batG (vs : List GVerb) (d : List Dn) (rest : List (List Dn)) : List (List Dn) := if fitL vs d = true then rest else d :: rest
-- (*talk.Talk).Batch: function 65
theorem Batch1_ok (b : Nat) (vs : List GVerb) (d : List Dn) (rest : List (List Dn)) (hv : 0 < vs.length) (hk : RW vs) : Fn Tryz.prog 65 [Is (.pointer (some ⟨b, 0, none⟩)), IsSl tGVerb vs] [blk b 156 (tkC (d :: rest) [] false)] (fun _ : Unit => IsTup [IsSl tDn (batD vs d), Is (.bool (fitL vs d))]) (fun _ => [blk b 156 (tkC (batG vs d rest) [] (!fitL vs d))]) := by
  have hz : (d :: rest)[0]? = some d := rfl
  have hln : (d :: rest).length = rest.length + 1 := rfl
  refine Fn.enterN Tryz.func65 Tryz.ntmps65 rfl rfl ?_
  intro c hX
  refine JC_seq ?_
  refine JC_region ?_
  refine JL_1 rfl (op_assign rfl) ?_
  refine JL_1 rfl (op_assign rfl) ?_
  refine JL_nil ?_
  refine JQ_then (JC_seq (JC_block (JC_seq ?_)))
  refine JC_region ?_
  refine JL_1 rfl (op_move rfl) ?_
  refine JL_1 rfl (by exact op_len (Ev.rfl' rfl) rfl) ?_
  refine JL_1 rfl (op_eql (Ev.rfl' rfl) (Ev.rfl' rfl)) ?_
  refine JL_1 rfl (op_assign rfl) ?_
  refine JL_nil ?_
  refine JQ_then ?_
  refine JC_cond (Ev.rfl' rfl) (fun h1 => ?_) (fun h1 => ?_)
  · exact absurd h1 (by simp; intro e; rw [e] at hv; simp at hv)
  refine JC_seq ?_
  refine JC_region ?_
  refine JL_1 rfl (op_move rfl) ?_
  refine JL_1 rfl (by exact op_nilCheck (Ev.rfl' rfl)) ?_
  refine JL_1 rfl (by exact op_fieldPtr (k := 0) (Ev.rfl' rfl) rfl rfl rfl rfl) ?_
  refine JL_1 rfl (by exact op_loadPtr (Ev.rfl' rfl) memT (by rfl) (by rfl) (by rfl)) ?_
  refine JL_1 rfl (by exact op_len (Ev.rfl' rfl) rfl) ?_
  refine JL_1 rfl (op_eql (Ev.rfl' rfl) (Ev.rfl' rfl)) ?_
  refine JL_1 rfl (op_assign rfl) ?_
  refine JL_nil ?_
  refine JQ_then ?_
  refine JC_cond (Ev.rfl' rfl) (fun h3 => ?_) (fun h3 => ?_)
  · exact absurd h3 (by simp; omega)
  refine JC_seq ?_
  refine JC_region ?_
  refine JL_1 rfl (op_move rfl) ?_
  refine JL_1 rfl (op_move rfl) ?_
  refine JL_1 rfl (by exact op_nilCheck (Ev.rfl' rfl)) ?_
  refine JL_1 rfl (by exact op_fieldPtr (k := 0) (Ev.rfl' rfl) rfl rfl rfl rfl) ?_
  refine JL_1 rfl (by exact op_loadPtr (Ev.rfl' rfl) memT (by rfl) (by rfl) (by rfl)) ?_
  refine JL_1 rfl (by exact op_index (j := 0) (Ev.rfl' rfl) (Ev.rfl' rfl) rfl rfl (by rfl) hz) ?_
  refine JL_1 rfl (by exact op_loadRef (Ev.rfl' rfl) rfl rfl rfl) ?_
  refine JL_1 rfl (op_call Tryz.call87 (Fit_ok vs d hk) ⟨evS, ⟨evS, trivial⟩⟩) ?_
  refine JL_1 rfl (op_not (Ev.rfl' rfl)) ?_
  refine JL_1 rfl (op_assign rfl) ?_
  refine JL_nil ?_
  refine JQ_then ?_
  refine JC_cond (Ev.rfl' rfl) (fun h6 => ?_) (fun h6 => ?_)
  · have g : fitL vs d = false := by simpa using h6
    unfold batD batG
    rw [if_neg (by rw [g]; simp), if_neg (by rw [g]; simp), g]
    refine JC_seq ?_
    refine JC_region ?_
    refine JL_1 rfl (op_move rfl) ?_
    refine JL_1 rfl (by exact op_nilCheck (Ev.rfl' rfl)) ?_
    refine JL_1 rfl (by exact op_fieldPtr (k := 2) (Ev.rfl' rfl) rfl rfl rfl rfl) ?_
    refine JL_s0 (op_storeN (Ev.rfl' rfl) (Ev.rfl' rfl) cellsT replT nrmT (by rfl) (by rfl) (by rfl)) ?_
    refine JL_nil ?_
    refine JQ_then (JC_seq ?_)
    refine JC_region ?_
    refine JL_1 rfl (op_assign rfl) ?_
    refine JL_1 rfl (op_assign rfl) ?_
    refine JL_nil ?_
    refine JQ_then (JC_ret (JQ_block_ret (JQ_then_ret ?_)))
    exact JQ_retP (Bs := [IsSl tDn [], Is (.bool false)]) Tryz.results65 ⟨⟨_, rfl, subT⟩, ⟨⟨_, rfl, subT⟩, trivial⟩⟩ () SubL.rfl' lessT
  have g : fitL vs d = true := by simpa using h6
  unfold batD batG
  rw [if_pos g, if_pos g, g]
  clear h6
  refine JC_skip (JQ_block (JQ_then (JC_seq ?_)))
  refine JC_dr rfl (by kernel_rfl) ?_
  refine JD_stretch 15 (by kernel_rfl) ?_
  refine JW_1 (op_move rfl) ?_
  refine JW_1 (op_move rfl) ?_
  refine JW_1 (by exact op_nilCheck (Ev.rfl' rfl)) ?_
  refine JW_1 (by exact op_fieldPtr (k := 0) (Ev.rfl' rfl) rfl rfl rfl rfl) ?_
  refine JW_1 (by exact op_loadPtr (Ev.rfl' rfl) memT (by rfl) (by rfl) (by rfl)) ?_
  refine JW_1 (by exact op_index (j := 0) (Ev.rfl' rfl) (Ev.rfl' rfl) rfl rfl (by rfl) hz) ?_
  refine JW_1 (by exact op_loadRef (Ev.rfl' rfl) rfl rfl rfl) ?_
  refine JW_1 (op_move rfl) ?_
  refine JW_1 (by exact op_nilCheck (Ev.rfl' rfl)) ?_
  refine JW_1 (by exact op_fieldPtr (k := 0) (Ev.rfl' rfl) rfl rfl rfl rfl) ?_
  refine JW_1 (by exact op_loadPtr (Ev.rfl' rfl) memT (by rfl) (by rfl) (by rfl)) ?_
  refine JW_1 (op_slice (Ev.rfl' rfl) rfl rfl ⟨_, _, (Ev.rfl' rfl), (show _ = ((1 : Nat) : Int) by rfl)⟩ rfl (by omega) (by omega)) ?_
  refine JW_1 (op_assign rfl) ?_
  refine JW_1 (by exact op_nilCheck (Ev.rfl' rfl)) ?_
  refine JW_1 (by exact op_fieldPtr (k := 0) (Ev.rfl' rfl) rfl rfl rfl rfl) ?_
  refine ⟨rfl, ?_⟩
  refine JD_s0 (by kernel_rfl) rfl (op_storeN (Ev.rfl' rfl) (Ev.rfl' rfl) cellsT replT nrmT (by rfl) (by rfl) (by rfl)) ?_
  refine JD_end ?_
  refine JQ_then (JC_seq ?_)
  rw [List.take_length]
  refine JC_region ?_
  refine JL_1 rfl (op_move rfl) ?_
  refine JL_1 rfl (op_assign rfl) ?_
  refine JL_1 rfl (op_assign rfl) ?_
  refine JL_nil ?_
  refine JQ_then (JC_ret ?_)
  exact JQ_retP (Bs := [IsSl tDn d, Is (.bool true)]) Tryz.results65 ⟨⟨_, rfl, subT⟩, ⟨⟨_, rfl, subT⟩, trivial⟩⟩ () SubL.rfl' lessT
-- (*talk.Talk).Asking: function 66
theorem Asking_ok (b : Nat) (got : List (List Dn)) (ask : List GVerb) (w : Bool) : Fn Tryz.prog 66 [Is (.pointer (some ⟨b, 0, none⟩))] [blk b 156 (tkC got ask w)] (fun _ : Unit => IsTup [IsSl tGVerb ask, Is (.bool (decide (0 < ask.length)))]) (fun _ => [blk b 156 (tkC got ask w)]) := by
  have e : decide ((ask.length : Int) > 0) = decide (0 < ask.length) := by rw [Bool.eq_iff_iff]; simp
  rw [← e]
  refine Fn.enterN Tryz.func66 Tryz.ntmps66 rfl rfl ?_
  intro c hX
  refine JC_seq ?_
  refine JC_region ?_
  refine JL_1 rfl (op_assign rfl) ?_
  refine JL_1 rfl (op_assign rfl) ?_
  refine JL_nil ?_
  refine JQ_then (JC_seq ?_)
  refine JC_dr rfl (by kernel_rfl) ?_
  refine JD_stretch 12 (by kernel_rfl) ?_
  refine JW_1 (op_move rfl) ?_
  refine JW_1 (by exact op_nilCheck (Ev.rfl' rfl)) ?_
  refine JW_1 (by exact op_fieldPtr (k := 1) (Ev.rfl' rfl) rfl rfl rfl rfl) ?_
  refine JW_1 (by exact op_loadPtr (Ev.rfl' rfl) memT (by rfl) (by rfl) (by rfl)) ?_
  refine JW_1 (op_move rfl) ?_
  refine JW_1 (by exact op_nilCheck (Ev.rfl' rfl)) ?_
  refine JW_1 (by exact op_fieldPtr (k := 1) (Ev.rfl' rfl) rfl rfl rfl rfl) ?_
  refine JW_1 (by exact op_loadPtr (Ev.rfl' rfl) memT (by rfl) (by rfl) (by rfl)) ?_
  refine JW_1 (by exact op_len (Ev.rfl' rfl) rfl) ?_
  refine JW_1 (op_gtr (Ev.rfl' rfl) (Ev.rfl' rfl)) ?_
  refine JW_1 (op_assign rfl) ?_
  refine JW_1 (op_assign rfl) ?_
  refine ⟨rfl, ?_⟩
  refine JD_end ?_
  refine JQ_then (JC_ret ?_)
  exact JQ_retP (Bs := [IsSl tGVerb ask, Is (.bool (decide ((ask.length : Int) > 0)))]) Tryz.results66 ⟨⟨_, rfl, subT⟩, ⟨⟨_, rfl, subT⟩, trivial⟩⟩ () SubL.rfl' lessT
-- (*talk.Talk).Mismatch: function 67
-- (*talk.Talk).Mismatch: function 67
theorem MismatchP_ok (got : List (List Dn)) (ask : List GVerb) (w : Bool) : FnP Tryz.prog 67 [IsRef (tkC got ask w)] (Is (.bool (w || decide (0 < got.length)))) := by
  have e : decide ((got.length : Int) > 0) = decide (0 < got.length) := by rw [Bool.eq_iff_iff]; simp
  rw [← e]
  refine FnP.enter Tryz.func67 Tryz.ntmps67 rfl rfl ?_
  intro c hX
  refine JC_seq ?_
  refine JC_region ?_
  refine JL_1 rfl (op_assign rfl) ?_
  refine JL_nil ?_
  refine JQ_then (JC_seq ?_)
  refine JC_region ?_
  refine JL_1 rfl (op_move rfl) ?_
  refine JL_1 rfl (by exact op_nilRef (Ev.rfl' rfl)) ?_
  refine JL_1 rfl (by exact op_fieldRefN (k := 2) (Ev.rfl' rfl) rfl rfl rfl rfl nrmT) ?_
  refine JL_1 rfl (by exact op_loadRef (Ev.rfl' rfl) rfl rfl rfl) ?_
  refine JL_1 rfl (op_move rfl) ?_
  (refine JL_i0 rfl rfl rfl (fun hg => (by have hg0 := hg; (try simp at hg); exact op_moveE (Ev.rfl' rfl))) ?_)
  (refine JL_i0 rfl rfl rfl (fun hg => (by have hg0 := hg; (try simp at hg); exact op_nilRef evG)) ?_)
  (refine JL_i0 rfl rfl rfl (fun hg => (by have hg0 := hg; (try simp at hg); exact op_fieldRefN (k := 0) evG rfl rfl rfl rfl nrmT)) ?_)
  (refine JL_i0 rfl rfl rfl (fun hg => (by have hg0 := hg; (try simp at hg); exact op_loadRef evG rfl rfl rfl)) ?_)
  (refine JL_i0 rfl rfl rfl (fun hg => (by have hg0 := hg; (try simp at hg); exact op_len evG rfl)) ?_)
  (refine JL_i0 rfl rfl rfl (fun hg => (by have hg0 := hg; (try simp at hg); exact op_gtr evG evG)) ?_)
  refine JL_1 rfl (op_or (Ev.rfl' rfl) rfl (fun h => by exact SubL.iteT (by (rw [h]; rfl)) SubL.rfl')) ?_
  refine JL_1 rfl (op_assign rfl) ?_
  refine JL_nil ?_
  refine JQ_then (JC_ret ?_)
  refine JQ_ret1 Tryz.results67 rfl () (SubL.eq ?_) (List.nil_sublist _)
  rfl
end Go.Proofs.YtfglhiciagmicaaGreat
