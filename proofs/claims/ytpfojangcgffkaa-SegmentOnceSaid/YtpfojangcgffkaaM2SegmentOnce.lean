/- Texts of this claim, laid together (part 2): walks of functions, what they compute, and plain laws of it. Own work. -/
import Derived.Deep.OwnRows
import Derived.OwnWalk
import Derived.RangeFuncIn
import Derived.RangeFuncLeaves
import Derived.RangeFuncRecord
import Derived.RangeFuncCalls
import Derived.OrdersIn
import Derived.TacticsIn
import Derived.Below
import Derived.Deep.Draws
import Derived.ChangeKeysEq
import Derived.ProofKit
import Derived.Deep.Slices
import Derived.OpenShut
import Derived.Test.YtpfojangcgffkaaM1SegmentOnce
/- Rules: the elements of a row of one's own, read and written. Own work. -/
namespace Go.Proofs.Ytpfojangcgffkaa
open Go.RowKit
set_option linter.unusedVariables false
set_option linter.unusedSimpArgs false
section
variable {P : Program} {c : Ctx} {A : Nat → Option VP} {L : List Item} {d : Option Tmp} {ty : TypeId} {pos : String} {af : Array Edge} {g : Option (Nat × Bool)}
variable {α : Type} {T : Ty α} {xs : List α} {i : Option Addr × Nat} {n : Nat} {e : TypeId}
/-- The address of a cell of a row of one's own. -/
def bpt (i : Option Addr × Nat) (o : Nat) : Value := match i.1 with
  | some a => .pointer (some ⟨a.block, o, none⟩)
  | none => undef
theorem own_buf {φ : Fz} {w : World} {k : Nat} (hm : HP c φ L w) (hL : buf (slV n i) e T xs ∈ L) (hk : k < xs.length) : ∃ gg cap cur, i = (some ⟨gg, 0, none⟩, cap) ∧ n = xs.length ∧ w.heap[gg]? = some (.cells cur e (0, 0)) ∧ xs.length ≤ cap ∧ cap ≤ maxLen ∧ cur.size = cap * T.size ∧
    ∃ flat, cur.toList.take (xs.length * T.size) = flat ∧ Alls φ (xs.flatMap T.cells) flat ∧ ones flat ∧ flat.length = xs.length * T.size := by
  obtain ⟨flat, f1, f2, f3⟩ := buf_owns (hm.mem.items _ hL)
  rcases f3.2 with ⟨_, h0⟩ | ⟨gg, cap, cur, e1, _, e2, e3, e4, e5, e6⟩
  · omega
  · obtain ⟨a, cp⟩ := i
    unfold slV at e1
    injection e1 with e7 e8 e9
    dsimp only at e7 e8 e9
    subst e7 e9
    exact ⟨gg, cp, cur, rfl, e8, e2, e3, e4, e5, flat, e6, f1, f2, f3.1⟩
theorem op_indexBuf {x y : Operand} {t : TypeId} {j : Int} {k : Nat} {q : IntKind} (hx : Ev A L x (Is (slV n i))) (hL : buf (slV n i) e T xs ∈ L) (hy : Ev A L y (Is (.int q j))) (hu : P.underlying t = some (.slice e)) (hs : (P.info? e).map (·.size) = some T.size) (hj : j = k) (hk : k < xs.length) :
    OpP P c ⟨d, .indexAddr t x y, ty, pos, af, g⟩ A L (Is (bpt i (k * T.size))) :=
  opp fun φ a w hm he => by
    have h1 : a.eval x = slV n i := he x (by simp [Op.operands]) _ hx
    have h6 : a.eval y = .int q j := he y (by simp [Op.operands]) _ hy
    obtain ⟨gg, cap, cur, rfl, rfl, _⟩ := own_buf hm hL hk
    refine ⟨_, ?_, rfl⟩
    have h7 : (0 : Int) ≤ j ∧ j < (xs.length : Int) := by omega
    have h8 : j.toNat = k := by omega
    simp only [execOp, h1, h6, slV]
    refine run_val ?_
    simp only [Instr.indexAt, asIntOf, Sem.run_bind, Sem.run_pure, Result.andThen_ok, run_underlying hu, h7, and_self, if_true, run_sizeOf hs, h8, addr_add0, bpt, Nat.zero_add]
theorem op_fieldBuf {s : TypeId} {x : Operand} {f0 o m k : Nat} {fs : Array Field} {f : Field} (hx : Ev A L x (Is (bpt i o))) (hL : buf (slV n i) e T xs ∈ L) (h0 : 0 < xs.length) (hu : P.underlying s = some (.struct fs)) (hf : fs[f0]? = some f) (hn : (P.info? f.type).map (·.size) = some (m + 1)) (hk : f.offset = k) :
    OpP P c ⟨d, .fieldAddr s x f0, ty, pos, af, g⟩ A L (Is (bpt i (o + k))) := by
  subst hk
  exact opp fun φ a w hm he => by
    have h1 : a.eval x = bpt i o := he x (by simp [Op.operands]) _ hx
    obtain ⟨gg, cap, cur, rfl, _⟩ := own_buf hm hL h0
    exact ⟨_, by simp only [execOp, h1, bpt, Sem.run_bind, run_field hu hf hn, Result.andThen_ok, Sem.run_pure, addr_add0], rfl⟩
theorem buf_cell {φ : Fz} {w : World} {gg k j : Nat} {cur : Array Value} {flat : List Value} {x : α} {B : VP} (h1 : w.heap[gg]? = some (.cells cur e (0, 0))) (h2 : cur.toList.take (xs.length * T.size) = flat) (h3 : Alls φ (xs.flatMap T.cells) flat) (hk : xs[k]? = some x) (hB : (T.cells x)[j]? = some B) :
    ∃ u, w.cell? ⟨gg, k * T.size + j, none⟩ = some u ∧ B.ok φ u ∧ flat[k * T.size + j]? = some u := by
  obtain ⟨u, h4, h5⟩ := flat_at (flat := flat) h3 hk hB
  refine ⟨u, ?_, h5, h4⟩
  rw [cell_of_row w gg _ cur e _ h1]
  rw [← h2] at h4
  have hl : k * T.size + j < xs.length * T.size := by
    have := (List.getElem?_eq_some_iff.1 h4).1
    rw [List.length_take] at this; omega
  rw [List.getElem?_take_of_lt hl, Array.getElem?_toList] at h4
  exact h4
theorem op_loadBuf {t : TypeId} {x : Operand} {k j : Nat} {z : α} {B : VP} {D : TypeDesc} (hx : Ev A L x (Is (bpt i (k * T.size + j)))) (hL : buf (slV n i) e T xs ∈ L) (hz : xs[k]? = some z) (hu : P.underlying t = some D) (hD : aggB D = false) (hB : (T.cells z)[j]? = some B) : OpP P c ⟨d, .load t x, ty, pos, af, g⟩ A L B :=
  opp fun φ a w hm he => by
    have h1 : a.eval x = bpt i (k * T.size + j) := he x (by simp [Op.operands]) _ hx
    obtain ⟨gg, cap, cur, rfl, _, e2, _, _, _, flat, e6, e7, _⟩ := own_buf hm hL (List.getElem?_eq_some_iff.1 hz).1
    obtain ⟨u, f1, f2, _⟩ := buf_cell e2 e6 e7 hz hB
    exact ⟨u, by simp only [execOp, h1, bpt]; exact run_val (run_loadOne hu hD f1), f2⟩
theorem op_loadBuf0 {t : TypeId} {x : Operand} {k : Nat} {z : α} {B : VP} {D : TypeDesc} (hx : Ev A L x (Is (bpt i (k * T.size)))) (hL : buf (slV n i) e T xs ∈ L) (hz : xs[k]? = some z) (hu : P.underlying t = some D) (hD : aggB D = false) (hB : (T.cells z)[0]? = some B) : OpP P c ⟨d, .load t x, ty, pos, af, g⟩ A L B :=
  op_loadBuf (j := 0) hx hL hz hu hD hB
theorem flatT_len (ys : List α) : (ys.flatMap T.cells).length = ys.length * T.size := by
  induction ys with
  | nil => simp
  | cons y ys ih => rw [List.flatMap_cons, List.length_append, ih, T.len, List.length_cons, Nat.add_mul]; omega
theorem op_loadBufs {t : TypeId} {x : Operand} {k : Nat} {z : α} {D : TypeDesc} (hx : Ev A L x (Is (bpt i (k * T.size)))) (hL : buf (slV n i) e T xs ∈ L) (hz : xs[k]? = some z) (hu : P.underlying t = some D) (hD : aggB D = true) (hn : (P.info? t).map (·.size) = some T.size) : OpP P c ⟨d, .load t x, ty, pos, af, g⟩ A L (IsAgg (T.cells z)) :=
  opp fun φ a w hm he => by
    have h1 : a.eval x = bpt i (k * T.size) := he x (by simp [Op.operands]) _ hx
    obtain ⟨gg, cap, cur, rfl, _, e2, _, _, _, flat, e6, e7, e8, e9⟩ := own_buf hm hL (List.getElem?_eq_some_iff.1 hz).1
    have hkl := (List.getElem?_eq_some_iff.1 hz).1
    have hlen : (T.cells z).length = T.size := T.len z
    have key : Alls φ (T.cells z) ((flat.drop (k * T.size)).take T.size) := by
      have h2 : (xs.flatMap T.cells).drop (k * T.size) = T.cells z ++ ((xs.drop (k + 1)).flatMap T.cells) := by
        have h3 : xs.flatMap T.cells = (xs.take k).flatMap T.cells ++ (xs.drop k).flatMap T.cells := by
          rw [← List.flatMap_append, List.take_append_drop]
        have h4 : ((xs.take k).flatMap T.cells).length = k * T.size := by
          rw [flatT_len, List.length_take]
          congr 1; omega
        rw [h3, ← h4, List.drop_left, List.drop_eq_getElem_cons hkl, List.flatMap_cons]
        have : xs[k] = z := by rw [List.getElem?_eq_getElem hkl] at hz; exact Option.some.inj hz
        rw [this]
      have h5 := (e7.drop (k * T.size)).take T.size
      rw [h2, ← hlen, List.take_left] at h5
      rw [hlen] at h5; exact h5
    have hl2 : ((flat.drop (k * T.size)).take T.size).length = T.size := by rw [← key.len, hlen]
    have h6 := run_loadAgg (w := w) (b := gg) (o := k * T.size) (vs := (flat.drop (k * T.size)).take T.size) hu hD hn hl2 fun j v hj => by
      rw [List.getElem?_take] at hj
      split at hj
      · rename_i hjt
        rw [List.getElem?_drop] at hj
        rw [cell_of_row w gg _ cur e _ e2]
        rw [← e6] at hj
        have hl : k * T.size + j < xs.length * T.size := by
          have := (List.getElem?_eq_some_iff.1 hj).1
          rw [List.length_take] at this; omega
        rw [List.getElem?_take_of_lt hl, Array.getElem?_toList] at hj
        exact hj
      · cases hj
    exact ⟨_, by simp only [execOp, h1, bpt]; exact run_val h6, ⟨_, rfl, key, e8.sub fun u hu => List.mem_of_mem_drop (List.mem_of_mem_take hu)⟩⟩
theorem ovr_append {As Cs Bs : List VP} {o : Nat} (h : o + Bs.length ≤ Cs.length) (D : List VP) : ovr (As ++ Cs ++ D) (As.length + o) Bs = As ++ ovr Cs o Bs ++ D := by
  induction Bs generalizing Cs o with
  | nil => rfl
  | cons B Bs ih =>
    simp only [List.length_cons] at h
    rw [ovr, ovr]
    have : (As ++ Cs ++ D).set (As.length + o) B = As ++ Cs.set o B ++ D := by
      rw [List.append_assoc, List.set_append_right _ _ (by omega), Nat.add_sub_cancel_left, List.set_append_left _ _ (by omega), List.append_assoc]
    rw [this, Nat.add_assoc, ih (by simp; omega)]
theorem flat_split {k : Nat} {z : α} (hz : xs[k]? = some z) : xs.flatMap T.cells = (xs.take k).flatMap T.cells ++ T.cells z ++ (xs.drop (k + 1)).flatMap T.cells := by
  have hkl := (List.getElem?_eq_some_iff.1 hz).1
  have h3 : xs = xs.take k ++ z :: xs.drop (k + 1) := by
    have : xs[k] = z := by rw [List.getElem?_eq_getElem hkl] at hz; exact Option.some.inj hz
    rw [← this, List.getElem_cons_drop, List.take_append_drop]
  conv => lhs; rw [h3]
  rw [List.flatMap_append, List.flatMap_cons, List.append_assoc]
theorem flat_ovr {k o : Nat} {z z' : α} {Bs : List VP} (hz : xs[k]? = some z) (hB : o + Bs.length ≤ T.size) (hc : T.cells z' = ovr (T.cells z) o Bs) : (xs.set k z').flatMap T.cells = ovr (xs.flatMap T.cells) (k * T.size + o) Bs := by
  have hkl := (List.getElem?_eq_some_iff.1 hz).1
  have h1 : (xs.set k z')[k]? = some z' := by simp [hkl]
  rw [flat_split h1, flat_split hz, hc]
  have h2 : ((xs.take k).flatMap T.cells).length = k * T.size := by rw [flatT_len, List.length_take]; congr 1; omega
  rw [← h2, ovr_append (by rw [T.len]; exact hB)]
  congr 2
  · rw [List.take_set, List.set_eq_of_length_le (by simp; omega)]
  · rw [List.drop_set]; simp
theorem op_storeBuf {t : TypeId} {x y : Operand} {k o m : Nat} {z z' : α} {D : VP} {Bs : List VP} {L' : List Item} (hx : Ev A L x (Is (bpt i (k * T.size + o)))) (hy : Ev A L y D) (hD : CellsOf D Bs) (hr : Repl L (buf (slV n i) e T xs) (buf (slV n i) e T (xs.set k z')) L') (hz : xs[k]? = some z)
    (hn : (P.info? t).map (·.size) = some m) (hB : (Nat.beq Bs.length m && Nat.ble (o + m) T.size) = true) (hc : T.cells z' = ovr (T.cells z) o Bs) : OpS P c ⟨d, .store t x y, ty, pos, af, g⟩ A L (fun _ : Unit => Is undef) (fun _ => L') := by
  intro φ a w K Q hm he hk
  have h1 : a.eval x = bpt i (k * T.size + o) := he x (by simp [Op.operands]) _ hx
  obtain ⟨us, h2, h3, h4⟩ := hD φ _ (he y (by simp [Op.operands]) _ hy)
  simp only [Bool.and_eq_true] at hB
  have b1 := Nat.eq_of_beq_eq_true hB.1
  have b2 := Nat.le_of_ble_eq_true hB.2
  have hkl := (List.getElem?_eq_some_iff.1 hz).1
  obtain ⟨gg, cap, cur, rfl, rfl, e2, e3, e4, e5, flat, e6, e7, e8, e9⟩ := own_buf hm hr.mem hkl
  have l1 := h3.len
  have hmul : (k + 1) * T.size ≤ xs.length * T.size := Nat.mul_le_mul_right _ hkl
  have hmul2 : xs.length * T.size ≤ cap * T.size := Nat.mul_le_mul_right _ e3
  rw [Nat.add_mul, Nat.one_mul] at hmul
  have hst := run_storeCells_at (P := P) gg (k * T.size + o) e us 0 cur w e2 (by omega) h4
  simp only [Nat.add_zero] at hst
  have hrun : (execOp a.eval ⟨d, .store t x y, ty, pos, af, g⟩).run P w = .ok .skip (w.setRow gg (cur.toList.take (k * T.size + o) ++ us ++ cur.toList.drop (k * T.size + o + us.length)).toArray) := by
    simp only [execOp, h1, bpt, Instr.storeAt, Instr.sureAddr, Sem.run_bind, Sem.run_pure, Result.andThen_ok, storeVar, run_sizeOf hn, h2]
    rw [if_neg (by simp; omega)]
    rw [hst]; rfl
  unfold Oper.wp
  rw [hrun]
  have hup := hm.upd hr (setRow_kpt (names [buf (slV xs.length (some ⟨gg, 0, none⟩, cap)) e T xs]) w gg (cur.toList.take (k * T.size + o) ++ us ++ cur.toList.drop (k * T.size + o + us.length)).toArray (by simp [names, buf, slV, Value.ownBlock])) ?_ (fun b' hb' => .inr hb')
  · exact hk () φ undef _ Fle.rfl' rfl hup
  refine ⟨⟨flat.take (k * T.size + o) ++ us ++ flat.drop (k * T.size + o + us.length), ?_, ?_, ?_, ?_⟩, fun b' hb' => ?_⟩
  · simp only [List.length_append, List.length_take, List.length_drop, List.length_set]; omega
  · rw [flat_ovr hz (by omega) hc, ovr_get _ _ _ (by rw [flatT_len]; omega), l1]
    exact ((e7.take _).append h3).append (e7.drop _)
  · intro u hu
    simp only [List.mem_append] at hu
    rcases hu with (hu | hu) | hu
    · exact e8 u (List.mem_of_mem_take hu)
    · exact h4 u hu
    · exact e8 u (List.mem_of_mem_drop hu)
  · rw [List.length_set]
    refine .inr ⟨gg, cap, (cur.toList.take (k * T.size + o) ++ us ++ cur.toList.drop (k * T.size + o + us.length)).toArray, rfl, ?_, e3, e4, ?_, ?_⟩
    · simp only [buf, slV, Value.ownBlock, Option.bind_some]
      exact setRow_heap w gg _ _ _ _ e2
    · simp only [List.size_toArray, List.length_append, List.length_take, List.length_drop, Array.length_toList]; omega
    · rw [← e6]
      simp only [List.take_append, List.take_take, List.drop_take, List.length_take, List.length_append, Array.length_toList]
      have q1 : min (xs.length * T.size) (k * T.size + o) = k * T.size + o := by omega
      have q2 : min (k * T.size + o) (xs.length * T.size) = k * T.size + o := by omega
      have q3 : min (k * T.size + o) cur.size = k * T.size + o := by omega
      rw [q1, q2, q3, List.take_of_length_le (l := us) (by omega)]
  · have := (hm.mem.items _ hr.mem).2 b' hb'
    exact ⟨by simp [World.setRow]; exact this.1, this.2⟩
theorem op_storeBuf0 {t : TypeId} {x y : Operand} {k m : Nat} {z z' : α} {D : VP} {Bs : List VP} {L' : List Item} (hx : Ev A L x (Is (bpt i (k * T.size)))) (hy : Ev A L y D) (hD : CellsOf D Bs) (hr : Repl L (buf (slV n i) e T xs) (buf (slV n i) e T (xs.set k z')) L') (hz : xs[k]? = some z)
    (hn : (P.info? t).map (·.size) = some m) (hB : (Nat.beq Bs.length m && Nat.ble m T.size) = true) (hc : T.cells z' = ovr (T.cells z) 0 Bs) : OpS P c ⟨d, .store t x y, ty, pos, af, g⟩ A L (fun _ : Unit => Is undef) (fun _ => L') :=
  op_storeBuf (o := 0) hx hy hD hr hz hn (by simpa using hB) hc
end
end Go.Proofs.Ytpfojangcgffkaa

/- Rules: literal slices and made slices that one may write. Own work. -/
namespace Go.Proofs.Ytpfojangcgffkaa
open Go.RowKit
set_option linter.unusedVariables false
set_option linter.unusedSimpArgs false
section
variable {P : Program} {c : Ctx} {A : Nat → Option VP} {L : List Item} {d : Option Tmp} {ty : TypeId} {pos : String} {af : Array Edge} {g : Option (Nat × Bool)}
variable {α : Type} {T : Ty α}
/-- A literal slice, to be written. -/
theorem op_buildSliceO (xs : List α) {t e : TypeId} {n size : Nat} {z : Value} {ps : Array (Nat × Operand)} {qs : List (Nat × List VP)} {Rs : List VP} (hu : P.underlying t = some (.slice e)) (hs : (P.info? e).map (·.size) = some size) (hz : (P.info? e).map (·.zero) = some (some z))
    (hq : PartsE A L ps.toList qs) (hf : fillL (fun i => some (i * size, size)) ((zRow (zcells z) (n * size)).map Is) qs = some Rs)
    (hn : (Nat.ble (n * size) 16777216 && Nat.blt 0 (n * size) && Nat.ble n 1000000 && (zRow (zcells z) (n * size)).all Value.oneCell' && Nat.beq xs.length n && Nat.beq size T.size) = true) (hx : SubLs L Rs (xs.flatMap T.cells)) :
    OpN P c ⟨d, .buildSlice t n ps, ty, pos, af, g⟩ A L (fun b : Nat => slV xs.length (some ⟨b, 0, none⟩, n)) (fun b => buf (slV xs.length (some ⟨b, 0, none⟩, n)) e T xs) := by
  intro φ a w K Q hm he hk
  simp only [Bool.and_eq_true] at hn
  obtain ⟨⟨⟨⟨⟨n1, n2⟩, n3⟩, n4⟩, n5⟩, n6⟩ := hn
  have m1 := Nat.le_of_ble_eq_true n1
  have m2 : 0 < n * size := Nat.le_of_ble_eq_true n2
  have m3 := Nat.le_of_ble_eq_true n3
  have m5 := Nat.eq_of_beq_eq_true n5
  have m6 := Nat.eq_of_beq_eq_true n6
  have hp := hq.at_ (φ := φ) (a := a) fun i x hx => he x (by simp only [Op.operands]; simp; exact ⟨i, by simpa using hx⟩)
  obtain ⟨rs, h1, h2, h3⟩ := fill_ok (alls_is (φ := φ) (zRow (zcells z) (n * size))) (ones_all n4) hp hf
  have h5 := hx.alls hm.mem.facts h2
  have hl : rs.length = n * size := by rw [← h5.len, flatT_len, m5, m6]
  have hrun : (execOp a.eval ⟨d, .buildSlice t n ps, ty, pos, af, g⟩).run P w = .ok (.value (.slice (some ⟨w.heap.size, 0, none⟩) n n)) (w.alloc (.cells rs.toArray e)) := by
    simp only [execOp]
    refine run_val ?_
    have e1 : (ps.map fun x => (x.1, a.eval x.2)).toList = ps.toList.map fun p => (p.1, a.eval p.2) := by simp
    have e2 : ((Array.range (n * size)).map fun x => z.cells[x % z.cells.size]!) = (zRow (zcells z) (n * size)).toArray := by
      unfold zRow zcells
      rw [Array.toArray_toList]
      apply Array.ext'
      simp
    simp only [Instr.buildSlice, Sem.run_bind, run_underlying hu, Result.andThen_ok, run_sizeOf hs]
    rw [if_neg (by omega)]
    have e4 : ¬ n * size = 0 := by omega
    simp only [if_neg e4, Sem.run_bind, run_zero hz, Result.andThen_ok, Sem.run_pure, e1, e2, h1, newRow, run_newObj_alloc]
  unfold Oper.wp
  rw [hrun]
  have hv : Value.slice (some ⟨w.heap.size, 0, none⟩) n n = slV xs.length (some ⟨w.heap.size, 0, none⟩, n) := by rw [m5]; rfl
  rw [hv]
  refine hk w.heap.size φ _ (hp_new (b := 0) hm rfl ⟨rs, by rw [hl, m5, m6], h5, h3, .inr ⟨w.heap.size, n, rs.toArray, rfl, rfl, by omega, by unfold maxLen; omega, by simp [hl, m6], ?_⟩⟩)
  rw [m5, ← m6, ← hl]
  simp
end
section
variable {P : Program} {c : Ctx} {N : Nat} {E : Env} {L : List Item} {Q Q' : Exit → Act → World → Prop}
/-- The ways meet behind a code that is followed by another. -/
theorem JC_cutT {x y : Code} {ι : Type} (I : ι → Prop) (Ef : ι → Env) (Lf : ι → List Item) (h2 : ∀ i, I i → JC P c N y (Ef i) (Lf i) Q) (h1 : JC P c N x E L (Exit.then (Meet c N I Ef Lf) Q')) : JC P c N x E L (Exit.then (y.wp P Q) Q') := by
  refine fun φ a w st => Code.wp_mono ?_ (h1 φ a w st)
  intro e a w h
  cases e with
  | normal => obtain ⟨i, φ, hi, st⟩ := h; exact h2 i hi φ a w st
  | exit id => exact h
  | goto l => exact h
  | ret => exact h
  | panic ch => exact h
  | outgrown => exact h
end
/-- A row's cell is not nil. -/
theorem op_nilBuf {P : Program} {c : Ctx} {A : Nat → Option VP} {L : List Item} {d : Option Tmp} {ty : TypeId} {pos : String} {af : Array Edge} {g : Option (Nat × Bool)} {α : Type} {T : Ty α} {xs : List α} {i : Option Addr × Nat} {n o : Nat} {e : TypeId} {x : Operand}
    (hx : Ev A L x (Is (bpt i o))) (hL : buf (slV n i) e T xs ∈ L) (h0 : 0 < xs.length) : OpP P c ⟨d, .nilCheck x, ty, pos, af, g⟩ A L (Is (bpt i o)) :=
  opp fun φ a w hm he => by
    have h1 : a.eval x = bpt i o := he x (by simp [Op.operands]) _ hx
    obtain ⟨gg, cap, cur, rfl, _⟩ := own_buf hm hL h0
    exact ⟨_, by simp only [execOp, h1, bpt]; rfl, rfl⟩
/-! ### Less memory, in another order -/
theorem Apart.symm {x y : Item} (h : Apart x y) : Apart y x := fun b hb hx => h b hx hb
inductive Drop1 : List Item → Item → List Item → Prop
  | here (it : Item) (L : List Item) : Drop1 (it :: L) it L
  | next (x : Item) {it : Item} {L L' : List Item} (h : Drop1 L it L') : Drop1 (x :: L) it (x :: L')
inductive SubP : List Item → List Item → Prop
  | nil (L : List Item) : SubP [] L
  | cons {it : Item} {L L1 M : List Item} (h : Drop1 L it L1) (h2 : SubP M L1) : SubP (it :: M) L
theorem Drop1.mem {L L' : List Item} {it : Item} (h : Drop1 L it L') : it ∈ L ∧ ∀ x, x ∈ L' → x ∈ L := by
  induction h with
  | here it L => exact ⟨List.mem_cons_self .., fun x hx => List.mem_cons_of_mem _ hx⟩
  | next y h ih => exact ⟨List.mem_cons_of_mem _ ih.1, fun x hx => by
      rcases List.mem_cons.1 hx with rfl | hx
      · exact List.mem_cons_self ..
      · exact List.mem_cons_of_mem _ (ih.2 x hx)⟩
theorem Drop1.sep {L L' : List Item} {it : Item} (h : Drop1 L it L') (hs : L.Pairwise Apart) : L'.Pairwise Apart ∧ ∀ x, x ∈ L' → Apart it x := by
  induction h with
  | here it L => exact ⟨(List.pairwise_cons.1 hs).2, (List.pairwise_cons.1 hs).1⟩
  | next y h ih =>
    obtain ⟨h1, h2⟩ := List.pairwise_cons.1 hs
    obtain ⟨h3, h4⟩ := ih h2
    refine ⟨List.pairwise_cons.2 ⟨fun x hx => h1 x (h.mem.2 x hx), h3⟩, fun x hx => ?_⟩
    rcases List.mem_cons.1 hx with rfl | hx
    · exact (h1 _ h.mem.1).symm
    · exact h4 x hx
theorem SubP.mem {L M : List Item} (h : SubP M L) : ∀ x, x ∈ M → x ∈ L := by
  induction h with
  | nil L => simp
  | cons h h2 ih => intro x hx; rcases List.mem_cons.1 hx with rfl | hx
                    · exact h.mem.1
                    · exact h.mem.2 x (ih x hx)
theorem SubP.sep {L M : List Item} (h : SubP M L) : L.Pairwise Apart → M.Pairwise Apart := by
  induction h with
  | nil L => intro _; exact List.Pairwise.nil
  | cons h h2 ih => intro hs; exact List.pairwise_cons.2 ⟨fun x hx => (h.sep hs).2 x (h2.mem x hx), ih (h.sep hs).1⟩
theorem HP.lessP {c : Ctx} {φ : Fz} {L L' : List Item} {w : World} (h : HP c φ L w) (hs : SubP L' L) : HP c φ L' w :=
  ⟨⟨h.mem.base, fun it hi => h.mem.items it (hs.mem it hi), hs.sep h.mem.sep⟩, h.kept, fun b hb => by
    obtain ⟨x, hx, hxb⟩ := mem_names.1 hb
    exact h.mine b (mem_names.2 ⟨x, hs.mem x hx, hxb⟩), h.old⟩
section
variable {P : Program} {c : Ctx} {N : Nat} {E : Env} {L : List Item} {Q Q' : Exit → Act → World → Prop}
theorem JQ_sub {ex : Exit} {L' : List Item} (hs : SubP L' L) (h : JQ c N E L' Q ex) : JQ c N E L Q ex := fun φ a w st => h φ a w ⟨st.defers, st.size, st.env, st.mem.lessP hs⟩
theorem JC_sub {x : Code} {L' : List Item} (hs : SubP L' L) (h : JC P c N x E L' Q) : JC P c N x E L Q := fun φ a w st => h φ a w ⟨st.defers, st.size, st.env, st.mem.lessP hs⟩
theorem JL_sub {ops : Array Oper} {rest : List Oper} {L' : List Item} (hs : SubP L' L) (h : JL P ops Q c N rest E L') : JL P ops Q c N rest E L := fun φ a w st => h φ a w ⟨st.defers, st.size, st.env, st.mem.lessP hs⟩
theorem JD_sub {ops : Array Oper} {rest : List Oper} {nd : List Nat} {k : Nat} {L' : List Item} (hs : SubP L' L) (h : JD P ops Q c N nd k rest E L') : JD P ops Q c N nd k rest E L := fun e1 e2 e3 e4 φ a w lst hp st => h e1 e2 e3 e4 φ a w lst hp ⟨st.defers, st.size, st.env, st.mem.lessP hs⟩
theorem SubP.refl' : ∀ L : List Item, SubP L L
  | [] => .nil _
  | it :: L => .cons (.here it L) (SubP.refl' L)
theorem JD_front {ops : Array Oper} {rest : List Oper} {nd : List Nat} {k : Nat} {it : Item} {L' : List Item} (hs : Drop1 L it L') (h : JD P ops Q c N nd k rest E (it :: L')) : JD P ops Q c N nd k rest E L := JD_sub (.cons hs (SubP.refl' _)) h
theorem JQ_meetP {ι : Type} {I : ι → Prop} {Ef : ι → Env} {Lf : ι → List Item} {K : Exit → Act → World → Prop} (i : ι) (hi : I i) (hE : ESub L E (Ef i)) (hL : SubP (Lf i) L) : JQ c N E L (Exit.then (Meet c N I Ef Lf) K) .normal := fun φ a w st =>
  ⟨i, φ, hi, ⟨(st.less hE (List.Sublist.refl _)).defers, (st.less hE (List.Sublist.refl _)).size, (st.less hE (List.Sublist.refl _)).env, st.mem.lessP hL⟩⟩
theorem JQ_roundP {ι : Type} {I : ι → Prop} {Ef : ι → Env} {Lf : ι → List Item} {μ : ι → Nat} {n : Nat} {K : Exit → Act → World → Prop} (i : ι) (hi : I i) (hμ : μ i < n) (hE : ESub L E (Ef i)) (hL : SubP (Lf i) L) : JQ c N E L (Exit.then (Round c N I Ef Lf μ n) K) .normal := fun φ a w st =>
  ⟨i, φ, hi, hμ, ⟨(st.less hE (List.Sublist.refl _)).defers, (st.less hE (List.Sublist.refl _)).size, (st.less hE (List.Sublist.refl _)).env, st.mem.lessP hL⟩⟩
theorem St.lessP {E' : Env} {L' : List Item} {φ : Fz} {a : Act} {w : World} (h : St c N (look E) L φ a w) (hE : ESub L E E') (hL : SubP L' L) : St c N (look E') L' φ a w :=
  ⟨h.defers, h.size, (h.less hE (List.Sublist.refl _)).env, h.mem.lessP hL⟩
theorem JC_loopP {x : Code} {ι : Type} (I : ι → Prop) (Ef : ι → Env) (Lf : ι → List Item) (μ : ι → Nat) (i0 : ι) (h0 : I i0) (hE : ESub L E (Ef i0)) (hL : SubP (Lf i0) L)
    (round : ∀ i, I i → JC P c N x (Ef i) (Lf i) (Exit.then (Round c N I Ef Lf μ (μ i)) Q)) : JC P c N (Code.loop x) E L Q := by
  intro φ a w st
  refine wp_loop_ghost (fun n a w => ∃ i φ, I i ∧ μ i = n ∧ St c N (look (Ef i)) (Lf i) φ a w) (μ i0) ⟨i0, φ, h0, rfl, st.lessP hE hL⟩ ?_
  rintro n a w ⟨i, φ, hi, rfl, st⟩
  refine Code.wp_mono ?_ (round i hi φ a w st)
  intro e a w h
  cases e with
  | normal => obtain ⟨i', φ, hi', hlt, st⟩ := h; exact ⟨μ i', hlt, i', φ, hi', rfl, st⟩
  | exit id => exact h
  | goto l => exact h
  | ret => exact h
  | panic ch => exact h
  | outgrown => exact h
theorem JQ_retP {fn : Func} {ι : Type} {R : ι → VP} {L' : ι → List Item} {rs : List ResultVar} {Bs : List VP} (hr : fn.results = rs.toArray) (hE : RetE P E L rs Bs) (i : ι) (hB : SubL L (retVP Bs) (R i)) (hL : SubP (L' i) L) (hD0 : c.ds = [] := by first | assumption | exact And.right (by assumption)) : JQ c N E L (bodyPost P fn (Post c R L')) .ret := by
  intro φ a w st
  obtain ⟨vs, h1, h2⟩ := run_results (A := look E) st hE
  have hlen := h2.len
  have hrun : (results fn a.tmps).run P w = .ok (if h : vs.toArray.size = 1 then vs.toArray[0] else .tuple vs.toArray) w := by
    unfold results
    rw [hr, List.mapM_toArray]
    simp only [Sem.run_bind, Sem.run_map, Sem.run_pure]
    erw [h1]
    rfl
  refine bodyPost_ret hrun (st.defers.trans hD0) ⟨i, _, φ, rfl, hB _ _ st.mem.mem.facts ?_, st.mem.lessP hL⟩
  match Bs, vs, h2 with
  | [], [], _ => exact ⟨[], rfl, trivial⟩
  | [B], [v], h => exact h.1
  | B :: B' :: Bs, v :: v' :: vs, h => exact ⟨_, rfl, h⟩
end
end Go.Proofs.Ytpfojangcgffkaa

/- Rules: words as bit vectors; results of which only some are known to be; values told otherwise. Own work. -/
namespace Go.Proofs.Ytpfojangcgffkaa
open Go.RowKit
set_option linter.unusedVariables false
set_option linter.unusedSimpArgs false
section
variable {P : Program} {c : Ctx} {A : Nat → Option VP} {L : List Item} {d : Option Tmp} {ty : TypeId} {pos : String} {af : Array Edge} {g : Option (Nat × Bool)} {x y : Operand} {t u : TypeId}
theorem op_binU {op : BinOp} {k j : IntKind} {n m : Int} {v : Value} (hx : Ev A L x (Is (.int k n))) (hy : Ev A L y (Is (.int j m))) (h : binOp op t (.int k n) (.int j m) = pure v) : OpP P c ⟨d, .binOp op t x y u, ty, pos, af, g⟩ A L (Is v) :=
  op_bin hx hy fun w => by rw [h, Sem.run_pure]
theorem op_shlU {a : BitVec 64} {j : IntKind} {m : Int} {k : Nat} (hx : Ev A L x (Is (.int .u64 (UV a)))) (hy : Ev A L y (Is (.int j m))) (h0 : 0 ≤ m) (hk : m.toNat = k) : OpP P c ⟨d, .binOp .shl t x y u, ty, pos, af, g⟩ A L (Is (.int .u64 (UV (a <<< k)))) :=
  op_shl hx hy h0 (by rw [hk, wrap_u64_mod]; exact shl_UV a k)
theorem op_shrU {a : BitVec 64} {j : IntKind} {m : Int} {k : Nat} (hx : Ev A L x (Is (.int .u64 (UV a)))) (hy : Ev A L y (Is (.int j m))) (h0 : 0 ≤ m) (hk : m.toNat = k) : OpP P c ⟨d, .binOp .shr t x y u, ty, pos, af, g⟩ A L (Is (.int .u64 (UV (a >>> k)))) :=
  op_shr hx hy h0 (by rw [hk]; exact shr_UV a k)
theorem op_shlU32 {a : BitVec 32} {j : IntKind} {m : Int} {k : Nat} (hx : Ev A L x (Is (.int .u32 (UV a)))) (hy : Ev A L y (Is (.int j m))) (h0 : 0 ≤ m) (hk : m.toNat = k) : OpP P c ⟨d, .binOp .shl t x y u, ty, pos, af, g⟩ A L (Is (.int .u32 (UV (a <<< k)))) :=
  op_shl hx hy h0 (by rw [hk, wrap_u32_mod]; exact shl_UV a k)
theorem op_shrU32 {a : BitVec 32} {j : IntKind} {m : Int} {k : Nat} (hx : Ev A L x (Is (.int .u32 (UV a)))) (hy : Ev A L y (Is (.int j m))) (h0 : 0 ≤ m) (hk : m.toNat = k) : OpP P c ⟨d, .binOp .shr t x y u, ty, pos, af, g⟩ A L (Is (.int .u32 (UV (a >>> k)))) :=
  op_shr hx hy h0 (by rw [hk]; exact shr_UV a k)
/-- Not a shift by a word's bits: as the number says. -/
theorem uv_nonneg {w : Nat} (a : BitVec w) : 0 ≤ UV a := UV_nonneg a
theorem u64nat (n : Nat) (h : n < 18446744073709551616) : Value.int .u64 (n : Int) = .int .u64 (UV (BitVec.ofNat 64 n)) := by rw [UV_ofNat h]
end
/-- A store into memory that the stretch itself has made. -/
theorem op_storeW {P : Program} {c : Ctx} {A : Nat → Option VP} {L : List Item} {ty : TypeId} {pos : String} {af : Array Edge} {g : Option (Nat × Bool)} {t t0 : TypeId} {y : Operand} {s n : Nat} {D : VP} {As Bs : List VP} (hy : Ev A L y D) (hD : CellsOf D Bs)
    (hn : (P.info? t).map (·.size) = some n) (hB : Nat.beq Bs.length n = true) (hl : Nat.ble (0 + n) As.length = true) :
    OpW P c ⟨none, .store t (.tmp s) y, ty, pos, af, g⟩ A L s (fun b : Nat => .pointer (some ⟨b, 0, none⟩)) (fun b => blk b t0 As) (fun b => blk b t0 (ovr As 0 Bs)) := by
  intro φ a w K Q b hm h0 he hk
  have h1 : a.eval (.tmp s) = .pointer (some ⟨b, 0, none⟩) := h0
  obtain ⟨us, h2, h3, h4⟩ := hD φ _ (he y (by simp [Op.operands]) _ hy)
  obtain ⟨vs, h5, h6, h7⟩ := own_blk hm (List.mem_cons_self ..)
  have e1 := Nat.eq_of_beq_eq_true hB
  have e2 := Nat.le_of_ble_eq_true hl
  have e3 := h3.len
  have e4 := h6.len
  have hst := run_storeCells_at (P := P) b 0 t0 us 0 vs.toArray w h5 (by simp; omega) h4
  have hrun : (execOp a.eval ⟨none, .store t (.tmp s) y, ty, pos, af, g⟩).run P w = .ok .skip (w.setRow b (vs.take 0 ++ us ++ vs.drop (0 + us.length)).toArray) := by
    simp only [execOp, h1, Instr.storeAt, Instr.sureAddr, Sem.run_bind, Sem.run_pure, Result.andThen_ok, storeVar, run_sizeOf hn, h2]
    rw [if_neg (by simp; omega)]
    simp only [Nat.add_zero] at hst
    rw [hst]; rfl
  unfold Oper.wp
  rw [hrun]
  have hm1 : HP ⟨w, φ, names [blk b t0 As], []⟩ φ [blk b t0 As] w := HP.start ⟨hm.mem.base, fun it hi => by rw [List.mem_singleton] at hi; subst hi; exact hm.mem.items _ (List.mem_cons_self ..), List.pairwise_singleton _ _⟩
  refine hk φ undef _ (hm1.upd (Repl.head _ _ _) (setRow_kpt _ _ _ _ (by simp [names, blk])) ?_ (fun b' hb' => .inr hb'))
  refine ⟨⟨vs.take 0 ++ us ++ vs.drop (0 + us.length), ?_, ?_, ?_⟩, fun b' hb' => ?_⟩
  · simp only [blk, Option.bind_some]
    exact setRow_heap w b _ _ _ _ h5
  · rw [ovr_get Bs As 0 (by omega), e3]
    exact ((h6.take 0).append h3).append (h6.drop _)
  · intro u hu
    simp only [List.mem_append] at hu
    rcases hu with (hu | hu) | hu
    · exact h7 u (List.mem_of_mem_take hu)
    · exact h4 u hu
    · exact h7 u (List.mem_of_mem_drop hu)
  · have := (hm.mem.items _ (List.mem_cons_self ..)).2 b' hb'
    exact ⟨by simp [World.setRow]; exact this.1, this.2⟩
/-! ### One of many -/
def VEx {ι : Type} (R : ι → VP) : VP := ⟨fun φ v => ∃ i, (R i).ok φ v, fun h ⟨i, k⟩ => ⟨i, (R i).mono h k⟩⟩
theorem Fn.ex {P : Program} {f : FuncId} {As : List VP} {ι : Type} {R : ι → VP} (h : Fn P f As [] R (fun _ => [])) : FnP P f As (VEx R) := by
  intro φ w vs h1 h2
  refine (h φ w vs h1 h2).mono ?_
  rintro e w' ⟨i, v, φ', rfl, h3, h4⟩
  exact ⟨(), v, φ', rfl, ⟨i, h3⟩, h4⟩
section
variable {P : Program} {c : Ctx} {N : Nat} {E : Env} {L : List Item} {Q : Exit → Act → World → Prop} {ops : Array Oper} {rest : List Oper}
theorem St.tell {φ : Fz} {a : Act} {w : World} (st : St c N (look E) L φ a w) {t : Nat} {B : VP} (h : B.ok φ (a.tmps.getD t undef)) : St c N (look ((t, B) :: E)) L φ a w :=
  ⟨st.defers, st.size, fun s D hD => by
    simp only [look] at hD
    cases hk : Nat.beq t s with
    | true => rw [hk] at hD; simp only [cond_true, Option.some.injEq] at hD; subst hD; rw [← Nat.eq_of_beq_eq_true hk]; exact h
    | false => rw [hk] at hD; exact st.env s D hD, st.mem⟩
theorem JC_ex {x : Code} {ι : Type} {R : ι → VP} (t : Nat) (hl : look E t = some (VEx R)) (h : ∀ i, JC P c N x ((t, R i) :: E) L Q) : JC P c N x E L Q := fun φ a w st =>
  let ⟨i, hi⟩ := st.env t _ hl
  h i φ a w (st.tell hi)
theorem JL_ex {ι : Type} {R : ι → VP} (t : Nat) (hl : look E t = some (VEx R)) (h : ∀ i, JL P ops Q c N rest ((t, R i) :: E) L) : JL P ops Q c N rest E L := fun φ a w st =>
  let ⟨i, hi⟩ := st.env t _ hl
  h i φ a w (st.tell hi)
theorem JD_ex {ι : Type} {R : ι → VP} {nd : List Nat} {k : Nat} (t : Nat) (hl : look E t = some (VEx R)) (h : ∀ i, JD P ops Q c N nd k rest ((t, R i) :: E) L) : JD P ops Q c N nd k rest E L := fun e1 e2 e3 e4 φ a w lst hp st =>
  let ⟨i, hi⟩ := st.env t _ hl
  h i e1 e2 e3 e4 φ a w lst hp (st.tell hi)
theorem JC_set {x : Code} {A : VP} (t : Nat) (B : VP) (hl : look E t = some A) (hs : SubL L A B) (h : JC P c N x ((t, B) :: E) L Q) : JC P c N x E L Q := fun φ a w st =>
  h φ a w (st.tell (hs _ _ st.mem.mem.facts (st.env t _ hl)))
theorem JL_set {A : VP} (t : Nat) (B : VP) (hl : look E t = some A) (hs : SubL L A B) (h : JL P ops Q c N rest ((t, B) :: E) L) : JL P ops Q c N rest E L := fun φ a w st =>
  h φ a w (st.tell (hs _ _ st.mem.mem.facts (st.env t _ hl)))
theorem JD_set {A : VP} {nd : List Nat} {k : Nat} (t : Nat) (B : VP) (hl : look E t = some A) (hs : SubL L A B) (h : JD P ops Q c N nd k rest ((t, B) :: E) L) : JD P ops Q c N nd k rest E L := fun e1 e2 e3 e4 φ a w lst hp st =>
  h e1 e2 e3 e4 φ a w lst hp (st.tell (hs _ _ st.mem.mem.facts (st.env t _ hl)))
end
end Go.Proofs.Ytpfojangcgffkaa

/- Rules: a slice against nil; an empty literal slice; append onto a literal; max and min. Own work. -/
namespace Go.Proofs.Ytpfojangcgffkaa
open Go.RowKit
set_option linter.unusedVariables false
set_option linter.unusedSimpArgs false
section
variable {P : Program} {c : Ctx} {A : Nat → Option VP} {L : List Item} {d : Option Tmp} {ty : TypeId} {pos : String} {af : Array Edge} {g : Option (Nat × Bool)}
variable {α : Type} {T : Ty α} {xs ys : List α} {x y : Operand} {t u e : TypeId}
theorem run_eqSlNil (hu : P.underlying t = some (.slice e)) (a : Option Addr) (n cp : Nat) (w : World) : (binOp .eql t (.slice a n cp) (.slice none 0 0)).run P w = .ok (.bool a.isNone) w := by
  have h : (Op.equalIn (9999 + 1) t (.slice a n cp) (.slice none 0 0)).run P w = .ok a.isNone w := by
    unfold Op.equalIn
    simp only [Sem.run_bind, run_underlying hu, Result.andThen_ok]
    cases a <;> rfl
  have h' : (Op.equal t (.slice a n cp) (.slice none 0 0)).run P w = .ok a.isNone w := h
  simp only [binOp, Sem.run_bind, h', Result.andThen_ok, Sem.run_pure]
theorem run_neSlNil (hu : P.underlying t = some (.slice e)) (a : Option Addr) (n cp : Nat) (w : World) : (binOp .neq t (.slice a n cp) (.slice none 0 0)).run P w = .ok (.bool !a.isNone) w := by
  have h : (Op.equalIn (9999 + 1) t (.slice a n cp) (.slice none 0 0)).run P w = .ok a.isNone w := by
    unfold Op.equalIn
    simp only [Sem.run_bind, run_underlying hu, Result.andThen_ok]
    cases a <;> rfl
  have h' : (Op.equal t (.slice a n cp) (.slice none 0 0)).run P w = .ok a.isNone w := h
  simp only [binOp, Sem.run_bind, h', Result.andThen_ok, Sem.run_pure]
theorem guard_slice (o : BinOp) (x y : Operand) (a : Option Addr) (n cp : Nat) (v : Value) (w : World) : (eqGuard o t x y (.slice a n cp) v).run P w = .ok () w := by
  cases o <;> rfl
/-- Whether a slice is nil: if it is, it is empty. -/
theorem op_eqNil (hx : Ev A L x (IsSl T xs)) (hu : P.underlying t = some (.slice e)) : OpP P c ⟨d, .binOp .eql t x (.const (.slice none 0 0)) u, ty, pos, af, g⟩ A L (VEx fun b : {b : Bool // b = true → xs = []} => Is (.bool b.1)) :=
  opp fun φ a w hm he => by
    have h1 : (IsSl T xs).ok φ (a.eval x) := he x (by simp [Op.operands]) _ hx
    obtain ⟨ad, n, cp, h2, h3, h4, h5, h6⟩ := h1
    have h7 : a.eval (.const (.slice none 0 0)) = .slice none 0 0 := rfl
    refine ⟨.bool ad.isNone, ?_, ⟨⟨ad.isNone, fun hb => ?_⟩, rfl⟩⟩
    · simp only [execOp, h2, h7, Sem.run_bind, guard_slice, Result.andThen_ok, run_eqSlNil hu, Sem.run_pure]
    · cases ad with
      | none =>
        rcases h6 with h6 | ⟨b, o, h6, _⟩
        · exact List.eq_nil_of_length_eq_zero (by omega)
        · cases h6
      | some _ => cases hb
theorem op_max {k : IntKind} {n m : Int} (hx : Ev A L x (Is (.int k n))) (hy : Ev A L y (Is (.int k m))) {ts : Array TypeId} : OpP P c ⟨d, .call { callee := .builtin .max, args := #[x, y], argTypes := ts }, ty, pos, af, g⟩ A L (Is (.int k (if m > n then m else n))) :=
  opp fun φ a w hm he => by
    have h1 : a.eval x = .int k n := he x (by simp [Op.operands, Call.operands]) _ hx
    have h2 : a.eval y = .int k m := he y (by simp [Op.operands, Call.operands]) _ hy
    refine ⟨_, ?_, rfl⟩
    have h4 : (#[x, y].map a.eval) = #[.int k n, .int k m] := by simp [h1, h2]
    simp only [execOp, resolve, h4, Sem.run_bind, Sem.run_pure, Result.andThen_ok, invoke, builtin]
    rfl
theorem op_min {k : IntKind} {n m : Int} (hx : Ev A L x (Is (.int k n))) (hy : Ev A L y (Is (.int k m))) {ts : Array TypeId} : OpP P c ⟨d, .call { callee := .builtin .min, args := #[x, y], argTypes := ts }, ty, pos, af, g⟩ A L (Is (.int k (if m < n then m else n))) :=
  opp fun φ a w hm he => by
    have h1 : a.eval x = .int k n := he x (by simp [Op.operands, Call.operands]) _ hx
    have h2 : a.eval y = .int k m := he y (by simp [Op.operands, Call.operands]) _ hy
    refine ⟨_, ?_, rfl⟩
    have h4 : (#[x, y].map a.eval) = #[.int k n, .int k m] := by simp [h1, h2]
    simp only [execOp, resolve, h4, Sem.run_bind, Sem.run_pure, Result.andThen_ok, invoke, builtin]
    rfl
/-- An empty literal slice, not nil: to be appended onto. -/
theorem op_buildSlice0 {size : Nat} {et : TypeId} (T : Ty α) (hu : P.underlying t = some (.slice et)) (hs : (P.info? et).map (·.size) = some size) :
    OpN P c ⟨d, .buildSlice t 0 #[], ty, pos, af, g⟩ A L (fun b : Nat => slV 0 (some ⟨b, 0, none⟩, 0)) (fun b => buf (slV 0 (some ⟨b, 0, none⟩, 0)) et T ([] : List α)) := by
  intro φ a w K Q hm he hk
  have hrun : (execOp a.eval ⟨d, .buildSlice t 0 #[], ty, pos, af, g⟩).run P w = .ok (.value (.slice (some ⟨w.heap.size, 0, none⟩) 0 0)) (w.alloc (.cells #[] et)) := by
    simp only [execOp]
    refine run_val ?_
    simp only [Instr.buildSlice, Sem.run_bind, run_underlying hu, Result.andThen_ok, run_sizeOf hs]
    rw [if_neg (by omega)]
    simp [Instr.fill, newRow]
    congr 2
    apply Array.ext'
    simp
  unfold Oper.wp
  rw [hrun]
  exact hk w.heap.size φ _ (hp_new (b := 0) hm rfl ⟨[], by simp, trivial, ones_nil, .inr ⟨w.heap.size, 0, #[], rfl, rfl, Nat.le_refl _, Nat.zero_le _, by simp, by simp⟩⟩)
/-- The first cells of a new block that stay. -/
theorem hp_newP {φ : Fz} {w : World} {vs rs : List Value} {As : List VP} {e : TypeId} (hm : HP c φ L w) (h : Alls φ As vs) (h1 : ones vs) : ∃ φ', Fle φ φ' ∧ HP ⟨w, φ, [], []⟩ φ' [] (w.alloc (.cells (vs ++ rs).toArray e)) ∧ RefAt φ' w.heap.size 0 As := by
  let φ' : Fz := fun b i => if b = w.heap.size then vs[i]? else φ b i
  have hno : ∀ i, φ w.heap.size i = none := fun i => by
    cases hφ : φ w.heap.size i with
    | none => rfl
    | some u => have := cell_lt (hm.mem.base _ _ _ hφ); omega
  have hsame : ∀ i, φ' w.heap.size i = vs[i]? := fun i => if_pos rfl
  have hoth : ∀ b i, b ≠ w.heap.size → φ' b i = φ b i := fun b i h => if_neg h
  have hle : Fle φ φ' := fun b i u hu => by
    rw [hoth b i (fun e => by subst e; rw [hno i] at hu; cases hu)]; exact hu
  refine ⟨φ', hle, ⟨⟨fun b i u hu => ?_, by simp, List.Pairwise.nil⟩, kpt_alloc _ _ _, by simp [names], fun b i hb => ?_⟩, fun j B hB => ?_⟩
  · by_cases hbg : b = w.heap.size
    · subst hbg
      rw [hsame] at hu
      rw [cell_of_row _ _ i (vs ++ rs).toArray e _ (heap_new w _)]
      have hl := (List.getElem?_eq_some_iff.1 hu).1
      rw [List.getElem?_toArray, List.getElem?_append_left hl]; exact hu
    · rw [hoth b i hbg] at hu
      have h2 := hm.mem.base b i u hu
      rw [cell_kept (Below.heap_alloc w _ b (cell_lt h2))]; exact h2
  · exact hoth b i (by have : b < w.heap.size := hb; omega)
  · obtain ⟨u, h2, h3⟩ := h.get hB
    exact ⟨u, by rw [hsame, Nat.zero_add]; exact h2, B.mono hle h3, h1 u (List.mem_of_getElem? h2)⟩
/-- append onto a literal slice: what comes back is told, the literal stays. -/
theorem op_appLit {n size : Nat} {As : List VP} (xs : List α) (hx : Ev A L x (IsRow n size As)) (hs : SubLs L As (xs.flatMap T.cells)) (hn : n = xs.length) (hsz : size = T.size) (hy : Ev A L y (IsSl T ys)) (hT : AppT P t e T.size) (hlen : xs.length + ys.length ≤ 1048576) :
    OpP P c ⟨d, .call { callee := .builtin .append, args := #[x, y], argTypes := #[t, t] }, ty, pos, af, g⟩ A L (IsSl T (xs ++ ys)) :=
  opq fun φ a w hm he => by
    obtain ⟨b, h1, h2, h3, h4⟩ : (IsRow n size As).ok φ (a.eval x) := he x (by simp [Op.operands, Call.operands]) _ hx
    obtain ⟨ad, m, cp, h5, h6⟩ : (IsSl T ys).ok φ (a.eval y) := he y (by simp [Op.operands, Call.operands]) _ hy
    obtain ⟨olds, f1, f2, f3, f4⟩ := refAt_alls h2
    have f5 : Alls φ (xs.flatMap T.cells) olds := hs.alls hm.mem.facts f1
    obtain ⟨news, n0, n1, n2, n3⟩ := sl_flat hm.mem.base h6
    obtain ⟨z, bytes, t1, t2, t3⟩ := hT.hi
    obtain ⟨i, hi, hzz⟩ := Option.map_eq_some_iff.1 t1
    simp only [Prod.mk.injEq] at hzz
    obtain ⟨hz, hsi, hb⟩ := hzz
    subst hn hsz
    have hmy : m = ys.length := h6.1
    have h7 : (#[x, y].map a.eval) = #[.slice (some ⟨b, 0, none⟩) xs.length xs.length, .slice ad m cp] := by simp [h1, h5]
    have hol : olds.length = xs.length * T.size := by rw [f2, h3]
    by_cases h0 : m = 0
    · have hys : ys = [] := List.eq_nil_of_length_eq_zero (by omega)
      subst hys
      subst h0
      refine ⟨.slice (some ⟨b, 0, none⟩) xs.length xs.length, φ, w, ?_, HP.start (L := []) ⟨hm.mem.base, by simp, List.Pairwise.nil⟩, ?_⟩
      · simp only [execOp, resolve, h7, Sem.run_bind, Sem.run_pure, Result.andThen_ok, invoke, builtin]
        cases ad <;> simp [Builtin.append_, run_underlying hT.ht, sizeOf, typeInfo, hi, Builtin.lenOf, Builtin.firstCells, storeCells, loadCells, loadCellsFrom]
      · rw [List.append_nil]
        refine ⟨_, _, _, rfl, rfl, Nat.le_refl _, h4, .inr ⟨b, 0, rfl, fun k v hk j B hB => ?_⟩⟩
        obtain ⟨u, k1, k2⟩ := flat_at (flat := olds) f5 hk hB
        exact ⟨u, by rw [Nat.zero_add]; have := f4 _ _ k1; rw [Nat.zero_add] at this; exact this, k2, f3 u (List.mem_of_getElem? k1)⟩
    · obtain ⟨b2, o2, rfl, n4⟩ := n3 h0
      subst hmy
      have hby := Nat.mul_le_mul hlen t3
      have hr := run_append_grow (P := P) w t ty e i z hT.ht hi hz ⟨b, 0, none⟩ xs.length xs.length olds (by rw [hol, hsi])
        (fun j u hu => by rw [addr_add0]; exact hm.mem.base _ _ _ (f4 j u hu)) ⟨b2, o2, none⟩ ys.length cp news (by rw [n0, hsi]) (fun j u hu => by rw [addr_add0]; exact hm.mem.base _ _ _ (n4 j u hu)) (by omega) (by omega)
        (growslice_fits (by omega) (by rw [hb]; omega))
      have hd : HP c φ L w.drew := hm.drew
      obtain ⟨φ', g1, g2, g3⟩ := hp_newP (e := e) (vs := olds ++ news) (rs := (Builtin.zeroCells z.cells (grownCap w (xs.length + ys.length) xs.length e - (xs.length + ys.length))).toList) (As := (xs ++ ys).flatMap T.cells) hd (by rw [List.flatMap_append]; exact f5.append n1) (fun u hu => by
        rcases List.mem_append.1 hu with hu | hu
        · exact f3 u hu
        · exact n2 u hu)
      have hw : olds.toArray ++ news.toArray ++ Builtin.zeroCells z.cells (grownCap w (xs.length + ys.length) xs.length e - (xs.length + ys.length)) = ((olds ++ news) ++ (Builtin.zeroCells z.cells (grownCap w (xs.length + ys.length) xs.length e - (xs.length + ys.length))).toList).toArray := by simp
      rw [hw] at hr
      refine ⟨_, φ', _, ?_, ⟨g2.mem, ⟨g2.kept.os, g2.kept.tape, g2.kept.output, g2.kept.size, g2.kept.block⟩, g2.mine, g2.old⟩, ⟨some ⟨w.heap.size, 0, none⟩, xs.length + ys.length, grownCap w (xs.length + ys.length) xs.length e, rfl, by simp, grownCap_ge w _ _ _, grownCap_le_maxLen w _ _ _ (by unfold maxLen; omega), .inr ⟨_, 0, rfl, fun k v hk j B hB => ?_⟩⟩⟩
      · simp only [execOp, resolve, h7, Sem.run_bind, Sem.run_pure, Result.andThen_ok, invoke, builtin, hr]
      · have := g3 _ B (flat_idx hk hB)
        rw [← Nat.add_assoc] at this
        exact this
end
end Go.Proofs.Ytpfojangcgffkaa

/- Rules: made slices. Own work. -/
namespace Go.Proofs.Ytpfojangcgffkaa
open Go.RowKit
set_option linter.unusedVariables false
set_option linter.unusedSimpArgs false
section
variable {P : Program} {c : Ctx} {A : Nat → Option VP} {L : List Item} {d : Option Tmp} {ty : TypeId} {pos : String} {af : Array Edge} {g : Option (Nat × Bool)}
variable {α : Type} {x y : Operand} {t e : TypeId}
theorem made_list (z : Value) (n : Nat) : (madeCells #[z] n).toList = List.replicate n z := by
  apply List.ext_getElem
  · simp [madeCells]
  · intro i h1 h2
    simp [madeCells, Nat.mod_one]
theorem alls_rep {φ : Fz} {B : VP} {v : Value} (h : B.ok φ v) : ∀ n, Alls φ (List.replicate n B) (List.replicate n v)
  | 0 => trivial
  | n + 1 => ⟨h, alls_rep h n⟩
/-- make of a row of one-cell elements: zeros, to be written. -/
theorem op_makeRow (T : Ty α) (z0 : α) {z : Value} {bytes n : Nat} {k k' : IntKind} (hx : Ev A L x (Is (.int k (n : Int)))) (hy : Ev A L y (Is (.int k' (n : Int)))) (hT : T.cells z0 = [Is z]) (hu : P.underlying t = some (.slice e))
    (hinfo : (P.info? e).map (fun i => (i.zero, i.size, i.bytes)) = some (some z, 1, bytes)) (hz1 : z.cells = #[z]) (ho : z.oneCell' = true) (hb : Nat.ble bytes 100000 = true) (hn : n ≤ 1048576) :
    OpN P c ⟨d, .makeSlice t x y, ty, pos, af, g⟩ A L (fun b : Nat => slV n (some ⟨b, 0, none⟩, n)) (fun b => buf (slV n (some ⟨b, 0, none⟩, n)) e T (List.replicate n z0)) := by
  intro φ a w K Q hm he hk
  have h1 : a.eval x = .int k (n : Int) := he x (by simp [Op.operands]) _ hx
  have h2 : a.eval y = .int k' (n : Int) := he y (by simp [Op.operands]) _ hy
  have hb' := Nat.le_of_ble_eq_true hb
  have hby := Nat.mul_le_mul hb' hn
  have hs : T.size = 1 := by have := T.len z0; rw [hT] at this; exact this.symm
  have hrun : (execOp a.eval ⟨d, .makeSlice t x y, ty, pos, af, g⟩).run P w = .ok (.value (.slice (some ⟨w.heap.size, 0, none⟩) n n)) (w.alloc (.cells (madeCells #[z] n) e)) := by
    simp only [execOp, h1, h2]
    refine run_val ?_
    exact run_make_row' t e z bytes hu hinfo hz1 k k' n (by omega) (by omega) w
  unfold Oper.wp
  rw [hrun]
  have hflat : ∀ m : Nat, ((List.replicate m z0).flatMap T.cells) = List.replicate m (Is z) := fun m => by
    induction m with
    | zero => rfl
    | succ m ih => rw [List.replicate_succ, List.flatMap_cons, ih, hT]; rfl
  refine hk w.heap.size φ _ (hp_new (b := 0) hm rfl ⟨List.replicate n z, by simp [hs], by rw [hflat]; exact alls_rep rfl n, fun u hu => by rw [(List.mem_replicate.1 hu).2]; exact ho, .inr ⟨w.heap.size, n, madeCells #[z] n, by simp [slV], rfl, by simp, by unfold maxLen; omega, by simp [madeCells, hs], ?_⟩⟩)
  rw [made_list]
  simp [hs]
/-- make of an empty row with room: to be appended onto. -/
theorem op_makeCap (T : Ty α) {z : Value} {bytes n : Nat} {k k' : IntKind} (hx : Ev A L x (Is (.int k 0))) (hy : Ev A L y (Is (.int k' (n : Int)))) (hu : P.underlying t = some (.slice e))
    (hinfo : (P.info? e).map (fun i => (i.zero, i.size, i.bytes)) = some (some z, T.size, bytes)) (hb : Nat.ble bytes 100000 = true) (hn : n ≤ 1048576) :
    OpN P c ⟨d, .makeSlice t x y, ty, pos, af, g⟩ A L (fun i : Option Addr × Nat => slV 0 i) (fun i => buf (slV 0 i) e T ([] : List α)) := by
  intro φ a w K Q hm he hk
  have h1 : a.eval x = .int k 0 := he x (by simp [Op.operands]) _ hx
  have h2 : a.eval y = .int k' (n : Int) := he y (by simp [Op.operands]) _ hy
  have hb' := Nat.le_of_ble_eq_true hb
  have hby := Nat.mul_le_mul hb' hn
  obtain ⟨i, hi, hzz⟩ := Option.map_eq_some_iff.1 hinfo
  simp only [Prod.mk.injEq] at hzz
  obtain ⟨hz, hsi, hbi⟩ := hzz
  obtain ⟨w', r0, r1, r2⟩ := run_make_own (P := P) w 0 t e i z T.size hu hi hz hsi k k' n (by rw [hbi]; omega) (by unfold maxLen; omega) (Nat.zero_le _)
  have hrun : (execOp a.eval ⟨d, .makeSlice t x y, ty, pos, af, g⟩).run P w = .ok (.value (.slice (some ⟨w.heap.size, 0, none⟩) 0 n)) w' := by
    simp only [execOp, h1, h2]
    exact run_val r0
  unfold Oper.wp
  rw [hrun]
  have h5 := hp_app (zs := ([] : List α)) (flat := []) (v' := slV 0 (some ⟨w.heap.size, 0, none⟩, n)) (hm.buf0 e T) trivial ones_nil r1 r2 (.inr rfl)
  have hnm : names [buf (.slice none 0 0) e T ([] : List α)] = [] := rfl
  rw [hnm] at h5
  exact hk (some ⟨w.heap.size, 0, none⟩, n) φ w' h5
end
end Go.Proofs.Ytpfojangcgffkaa

/- Rules: arrays by address. Own work. -/
namespace Go.Proofs.Ytpfojangcgffkaa
open Go.RowKit
set_option linter.unusedVariables false
set_option linter.unusedSimpArgs false
section
variable {P : Program} {c : Ctx} {A : Nat → Option VP} {L : List Item} {d : Option Tmp} {ty : TypeId} {pos : String} {af : Array Edge} {g : Option (Nat × Bool)}
variable {x y : Operand} {t e : TypeId}
/-- The address of an array's element. -/
theorem op_indexArr {b o len sz k : Nat} {j : Int} {q : IntKind} (hx : Ev A L x (Is (.pointer (some ⟨b, o, none⟩)))) (hy : Ev A L y (Is (.int q j))) (hu : P.underlying t = some (.array len e)) (hs : (P.info? e).map (·.size) = some sz) (hj : j = k) (hk : k < len) :
    OpP P c ⟨d, .indexAddr t x y, ty, pos, af, g⟩ A L (Is (.pointer (some ⟨b, o + k * sz, none⟩))) :=
  opp fun φ a w hm he => by
    have h1 : a.eval x = .pointer (some ⟨b, o, none⟩) := he x (by simp [Op.operands]) _ hx
    have h6 : a.eval y = .int q j := he y (by simp [Op.operands]) _ hy
    refine ⟨_, ?_, rfl⟩
    have h7 : (0 : Int) ≤ j ∧ j < (len : Int) := by omega
    have h8 : j.toNat = k := by omega
    simp only [execOp, h1, h6]
    refine run_val ?_
    simp only [Instr.indexAt, asIntOf, Sem.run_bind, Sem.run_pure, Result.andThen_ok, run_underlying hu, Instr.sureAddr, h7, and_self, if_true, run_sizeOf hs, h8, addr_add0]
/-- A block of one's own stays as it is from here on. -/
theorem HP.freezeB {φ : Fz} {w : World} {b : Nat} {t : TypeId} {As : List VP} {L' : List Item} {p0 : Prop} (hX : c.X = [] ∧ p0) (hm : HP c φ L w) (hr : Repl L (blk b t As) (fact (.pointer (some ⟨b, 0, none⟩)) (IsRef As)) L') : ∃ φ', Fle φ φ' ∧ HP c φ' L' w := by
  obtain ⟨vs, e1, f1, f2⟩ := own_blk hm hr.mem
  have hit := hm.mem.items _ hr.mem
  have hown : ∀ i, φ b i = none := fun i => (hit.2 b rfl).2 i
  let φ' : Fz := fun b' i => if b' = b then vs[i]? else φ b' i
  have hsame : ∀ i, φ' b i = vs[i]? := fun i => if_pos rfl
  have hoth : ∀ b' i, b' ≠ b → φ' b' i = φ b' i := fun b' i h => if_neg h
  have hle : Fle φ φ' := fun b' i u hu => by
    rw [hoth b' i (fun e => by subst e; rw [hown i] at hu; cases hu)]; exact hu
  have hg0 : c.w.heap.size ≤ b := (hm.mine b (mem_names.2 ⟨_, hr.mem, rfl⟩)).resolve_right (by rw [hX.1]; simp)
  refine ⟨φ', hle, ⟨⟨fun b' i u hu => ?_, fun x hx => ?_, hr.sep hm.mem.sep fun x hx _ _ => ⟨fun b _ (hb : none = some b) => (nomatch hb), fun b (hb : none = some b) => (nomatch hb)⟩⟩, hm.kept, fun b' hb => ?_, fun b' i hb => ?_⟩⟩
  · by_cases hbg : b' = b
    · subst hbg
      rw [hsame] at hu
      rw [cell_blk e1]; exact hu
    · rw [hoth b' i hbg] at hu
      exact hm.mem.base b' i u hu
  · rcases hr.mem' hx with rfl | ⟨hx', hap⟩
    · refine ⟨⟨b, 0, rfl, fun j B hB => ?_⟩, fun b (hb : none = some b) => (nomatch hb)⟩
      obtain ⟨u, h1, h2⟩ := f1.get hB
      exact ⟨u, by rw [hsame, Nat.zero_add]; exact h1, B.mono hle h2, f2 u (List.mem_of_getElem? h1)⟩
    · obtain ⟨h1, h2⟩ := hm.mem.items x hx'
      refine ⟨x.mono hle h1, fun b' hb => ⟨(h2 b' hb).1, fun i => ?_⟩⟩
      rw [hoth b' i (fun e => (hap hm.mem.sep).1 b' hb (by rw [e]; rfl))]
      exact (h2 b' hb).2 i
  · obtain ⟨x, hx, hxb⟩ := mem_names.1 hb
    rcases hr.mem' hx with rfl | ⟨hx', _⟩
    · cases hxb
    · exact hm.mine b' (mem_names.2 ⟨x, hx', hxb⟩)
  · rw [hoth b' i (by omega)]
    exact hm.old b' i hb
variable {Q : Exit → Act → World → Prop} {N : Nat} {ops : Array Oper} {rest : List Oper} {E : Env} {b : Nat} {As : List VP} {L' : List Item}
theorem JL_freezeB {p0 : Prop} (hX : c.X = [] ∧ p0) (hr : Repl L (blk b t As) (fact (.pointer (some ⟨b, 0, none⟩)) (IsRef As)) L') (h : JL P ops Q c N rest E L') : JL P ops Q c N rest E L := fun φ a w st =>
  let ⟨φ', h1, h2⟩ := HP.freezeB hX st.mem hr
  h φ' a w ⟨st.defers, st.size, fun t B hB => B.mono h1 (st.env t B hB), h2⟩
theorem JC_freezeB {x : Code} {p0 : Prop} (hX : c.X = [] ∧ p0) (hr : Repl L (blk b t As) (fact (.pointer (some ⟨b, 0, none⟩)) (IsRef As)) L') (h : JC P c N x E L' Q) : JC P c N x E L Q := fun φ a w st =>
  let ⟨φ', h1, h2⟩ := HP.freezeB hX st.mem hr
  h φ' a w ⟨st.defers, st.size, fun t B hB => B.mono h1 (st.env t B hB), h2⟩
theorem JQ_freezeB {ex : Exit} {p0 : Prop} (hX : c.X = [] ∧ p0) (hr : Repl L (blk b t As) (fact (.pointer (some ⟨b, 0, none⟩)) (IsRef As)) L') (h : JQ c N E L' Q ex) : JQ c N E L Q ex := fun φ a w st =>
  let ⟨φ', h1, h2⟩ := HP.freezeB hX st.mem hr
  h φ' a w ⟨st.defers, st.size, fun t B hB => B.mono h1 (st.env t B hB), h2⟩
end
end Go.Proofs.Ytpfojangcgffkaa

/- Rules: functions that hold values. Own work. -/
namespace Go.Proofs.Ytpfojangcgffkaa
open Go.RowKit
set_option linter.unusedVariables false
set_option linter.unusedSimpArgs false
/-- A function and what it holds. -/
def IsFn (f : FuncId) (Cs : List VP) : VP := ⟨fun φ v => ∃ cs : List Value, v = .func (.func f) #[] cs.toArray ∧ Alls φ Cs cs, fun h ⟨cs, e, k⟩ => ⟨cs, e, k.mono h⟩⟩
section
variable {P : Program} {c : Ctx} {A : Nat → Option VP} {L : List Item} {d : Option Tmp} {ty : TypeId} {pos : String} {af : Array Edge} {g : Option (Nat × Bool)}
theorem op_callFn {f : FuncId} {x : Operand} {xs : List Operand} {ts : Array TypeId} {As Cs : List VP} {R : VP} (hx : Ev A L x (IsFn f Cs)) (hc : ∀ (args : Array Value) (w : World), (callFunc f args).run P w = .ok (.enter f args) w)
    (hF : FnP P f (As ++ Cs) R) (ha : ArgsE A L xs As) : OpP P c ⟨d, .call { callee := .value x, args := xs.toArray, argTypes := ts }, ty, pos, af, g⟩ A L R := by
  intro φ a w K Q hm he hk
  obtain ⟨cap, h1, h2⟩ : (IsFn f Cs).ok φ (a.eval x) := he x (by simp [Op.operands, Call.operands]) _ hx
  have hv := ha.alls (φ := φ) (a := a) fun x hx => he x (by simp [Op.operands, Call.operands, hx])
  have hrun : (execOp a.eval ⟨d, .call { callee := .value x, args := xs.toArray, argTypes := ts }, ty, pos, af, g⟩).run P w = .ok (.enter f (xs.map a.eval ++ cap).toArray) w := by
    simp only [execOp, resolve, h1, Deferred.ofValue, Sem.run_bind, Sem.run_pure, Result.andThen_ok, invoke, hc]
    simp
  unfold Oper.wp
  rw [hrun]
  refine (hF φ w _ (hv.append h2) ⟨hm.mem.base, by simp, List.Pairwise.nil⟩).mono ?_
  rintro e w' ⟨i, v, φ', rfl, h1, h2⟩
  exact hk φ' v w' (by simpa [names] using h2) h1
theorem op_makeFunc {f : FuncId} {xs : List Operand} {Cs : List VP} (ha : ArgsE A L xs Cs) : OpP P c ⟨d, .makeFunc (.func f) #[] xs.toArray, ty, pos, af, g⟩ A L (IsFn f Cs) :=
  opp fun φ a w hm he => by
    have hv := ha.alls (φ := φ) (a := a) fun x hx => he x (by simp [Op.operands, hx])
    exact ⟨_, by simp only [execOp]; exact run_val (by simp [Instr.makeFunc]; rfl), ⟨xs.map a.eval, by simp, hv⟩⟩
end
end Go.Proofs.Ytpfojangcgffkaa

/- Rules: a slice of an array that stays. Own work. -/
namespace Go.Proofs.Ytpfojangcgffkaa
open Go.RowKit
set_option linter.unusedVariables false
set_option linter.unusedSimpArgs false
section
variable {P : Program} {c : Ctx} {A : Nat → Option VP} {L : List Item} {d : Option Tmp} {ty : TypeId} {pos : String} {af : Array Edge} {g : Option (Nat × Bool)}
variable {α : Type} {T : Ty α}
/-- The whole of an array that stays, as a slice. -/
theorem op_sliceRef (xs : List α) {x : Operand} {t e : TypeId} {n : Nat} {As : List VP} (hx : Ev A L x (IsRef As)) (hu : P.underlying t = some (.array n e)) (hs : (P.info? e).map (·.size) = some T.size) (hn : xs.length = n) (hm : Nat.ble n maxLen = true) (h : SubLs L (As.take (n * T.size)) (xs.flatMap T.cells)) :
    OpP P c ⟨d, .slice t x none none none, ty, pos, af, g⟩ A L (IsSl T xs) := by
  intro φ a w K Q hh he hk
  obtain ⟨b, o, h1, h2⟩ : (IsRef As).ok φ (a.eval x) := he x (by simp [Op.operands]) _ hx
  have hrun : (execOp a.eval ⟨d, .slice t x none none none, ty, pos, af, g⟩).run P w = .ok (.value (.slice (some ⟨b, o, none⟩) n n)) w := by
    simp only [execOp, h1]
    refine run_val ?_
    simp only [Instr.sliceAt, Sem.run_bind, run_underlying hu, Result.andThen_ok, Instr.sureAddr, Sem.run_pure, Option.map_none, Instr.sliceBounds, run_sizeOf hs]
    simp [Addr.add]
  unfold Oper.wp
  rw [hrun]
  refine hk φ _ w hh.idle ⟨_, _, _, rfl, hn.symm, Nat.le_refl _, Nat.le_of_ble_eq_true hm, .inr ⟨b, o, rfl, fun k z hz j B hB => ?_⟩⟩
  obtain ⟨D, h3, h4⟩ := subLs_get (Bs := []) h (flat_idx hz hB)
  have h5 : As[k * T.size + j]? = some D := by
    rw [List.getElem?_take] at h3
    split at h3
    · exact h3
    · cases h3
  obtain ⟨u, h6, h7, h8⟩ := h2 _ D h5
  exact ⟨u, by rw [Nat.add_assoc]; exact h6, h4 φ u hh.mem.facts h7, h8⟩
/-- An element of an array that stays. -/
theorem op_indexRef (xs : List α) {x y : Operand} {t e : TypeId} {n j : Nat} {i : Int} {k : IntKind} {z : α} {As : List VP} (hx : Ev A L x (IsRef As)) (hy : Ev A L y (Is (.int k i))) (hu : P.underlying t = some (.array n e)) (hs : (P.info? e).map (·.size) = some T.size) (hn : xs.length = n) (h : SubLs L (As.take (n * T.size)) (xs.flatMap T.cells)) (hi : i = j) (hz : xs[j]? = some z) :
    OpP P c ⟨d, .indexAddr t x y, ty, pos, af, g⟩ A L (IsRef (T.cells z)) := by
  intro φ a w K Q hh he hk
  obtain ⟨b, o, h1, h2⟩ : (IsRef As).ok φ (a.eval x) := he x (by simp [Op.operands]) _ hx
  have h6 : a.eval y = .int k i := he y (by simp [Op.operands]) _ hy
  have hlt : j < xs.length := (List.getElem?_eq_some_iff.1 hz).1
  have hrun : (execOp a.eval ⟨d, .indexAddr t x y, ty, pos, af, g⟩).run P w = .ok (.value (.pointer (some ⟨b, o + j * T.size, none⟩))) w := by
    have h7 : (0 : Int) ≤ i ∧ i < (n : Int) := by omega
    have h8 : i.toNat = j := by omega
    simp only [execOp, h1, h6]
    refine run_val ?_
    simp only [Instr.indexAt, asIntOf, Sem.run_bind, Sem.run_pure, Result.andThen_ok, run_underlying hu, h7, and_self, if_true, run_sizeOf hs, h8, addr_add0, Instr.sureAddr]
  unfold Oper.wp
  rw [hrun]
  refine hk φ _ w hh.idle ⟨b, _, rfl, fun q B hB => ?_⟩
  obtain ⟨D, h3, h4⟩ := subLs_get (Bs := []) h (flat_idx hz hB)
  have h5 : As[j * T.size + q]? = some D := by
    rw [List.getElem?_take] at h3
    split at h3
    · exact h3
    · cases h3
  obtain ⟨u, h6, h7, h8⟩ := h2 _ D h5
  exact ⟨u, by rw [Nat.add_assoc]; exact h6, h4 φ u hh.mem.facts h7, h8⟩
end
end Go.Proofs.Ytpfojangcgffkaa

/- Rules: memory of one's own lent to a call that only reads it. Own work. -/
namespace Go.Proofs.Ytpfojangcgffkaa
open Go.RowKit
set_option linter.unusedVariables false
set_option linter.unusedSimpArgs false
/-- What is one's own, told as if it stayed. -/
inductive LendL : List Item → List Item → Prop
  | nil : LendL [] []
  | keep (it : Item) {L L' : List Item} (h : LendL L L') : LendL (it :: L) (it :: L')
  | buf {α : Type} {v : Value} {e : TypeId} {T : Ty α} {xs : List α} {L L' : List Item} (h : LendL L L') : LendL (buf v e T xs :: L) (fact v (IsSl T xs) :: L')
  | blk {b : Nat} {t : TypeId} {As : List VP} {L L' : List Item} (h : LendL L L') : LendL (blk b t As :: L) (fact (.pointer (some ⟨b, 0, none⟩)) (IsRef As) :: L')
theorem Repl.mid (it it' : Item) (L : List Item) : ∀ M : List Item, Repl (M ++ it :: L) it it' (M ++ it' :: L)
  | [] => .head it it' L
  | x :: M => .tail x (Repl.mid it it' L M)
theorem Mem.ctx {φ : Fz} {L : List Item} {w : World} (hm : Mem φ L w) : HP ⟨{ w with heap := #[] }, φ, [], []⟩ φ L w :=
  ⟨hm, ⟨rfl, rfl, rfl, Nat.zero_le _, fun k hk => absurd hk (by simp)⟩, fun b _ => .inl (Nat.zero_le _), fun _ _ _ => rfl⟩
theorem LendL.mem {L L' : List Item} (h : LendL L L') : ∀ (M : List Item) (φ : Fz) (w : World), Mem φ (M ++ L) w → ∃ φ', Fle φ φ' ∧ Mem φ' (M ++ L') w := by
  induction h with
  | nil => exact fun M φ w hm => ⟨φ, Fle.rfl', hm⟩
  | keep it h ih =>
    intro M φ w hm
    obtain ⟨φ', h1, h2⟩ := ih (M ++ [it]) φ w (by simpa using hm)
    exact ⟨φ', h1, by simpa using h2⟩
  | @buf α v e T xs L L' h ih =>
    intro M φ w hm
    obtain ⟨φ1, h1, h2⟩ := HP.freeze (c := ⟨{ w with heap := #[] }, φ, [], []⟩) ⟨rfl, trivial⟩ hm.ctx (Repl.mid (Go.Proofs.Ytpfojangcgffkaa.buf v e T xs) (fact v (IsSl T xs)) L M)
    obtain ⟨φ', h3, h4⟩ := ih (M ++ [fact v (IsSl T xs)]) φ1 w (by simpa using h2.mem)
    exact ⟨φ', h1.tr h3, by simpa using h4⟩
  | @blk b t As L L' h ih =>
    intro M φ w hm
    obtain ⟨φ1, h1, h2⟩ := HP.freezeB (c := ⟨{ w with heap := #[] }, φ, [], []⟩) ⟨rfl, trivial⟩ hm.ctx (Repl.mid (Go.Proofs.Ytpfojangcgffkaa.blk b t As) (fact (.pointer (some ⟨b, 0, none⟩)) (IsRef As)) L M)
    obtain ⟨φ', h3, h4⟩ := ih (M ++ [fact (.pointer (some ⟨b, 0, none⟩)) (IsRef As)]) φ1 w (by simpa using h2.mem)
    exact ⟨φ', h1.tr h3, by simpa using h4⟩
/-- A value that names no memory. -/
def PureV (R : VP) : Prop := ∀ φ φ' v, R.ok φ v → R.ok φ' v
theorem pure_is {u : Value} : PureV (Is u) := fun _ _ _ h => h
def PureVs : List VP → Prop
  | [] => True
  | A :: As => PureV A ∧ PureVs As
theorem PureVs.alls {φ φ' : Fz} : ∀ {As : List VP} {vs : List Value}, PureVs As → Alls φ As vs → Alls φ' As vs
  | [], [], _, _ => trivial
  | A :: As, v :: vs, ⟨h1, h2⟩, ⟨h3, h4⟩ => ⟨h1 _ _ _ h3, h2.alls h4⟩
theorem pure_tup {As : List VP} (h : PureVs As) : PureV (IsTup As) := fun _ _ _ ⟨vs, e, k⟩ => ⟨vs, e, h.alls k⟩
theorem pure_agg {As : List VP} (h : PureVs As) : PureV (IsAgg As) := fun _ _ _ ⟨vs, e, k, o⟩ => ⟨vs, e, h.alls k, o⟩
theorem pure_ex {ι : Type} {R : ι → VP} (h : ∀ i, PureV (R i)) : PureV (VEx R) := fun _ _ _ ⟨i, k⟩ => ⟨i, h i _ _ _ k⟩
section
variable {P : Program} {c : Ctx} {A : Nat → Option VP} {L : List Item} {d : Option Tmp} {ty : TypeId} {pos : String} {af : Array Edge} {g : Option (Nat × Bool)}
theorem op_callB {f : FuncId} {xs : List Operand} {ts : Array TypeId} {As : List VP} {R : VP} {L' : List Item} (hL : LendL L L') (hc : ∀ (args : Array Value) (w : World), (callFunc f args).run P w = .ok (.enter f args) w)
    (hF : FnP P f As R) (ha : ArgsE A L' xs As) (hR : PureV R) : OpP P c ⟨d, .call { callee := .value (.func f), args := xs.toArray, argTypes := ts }, ty, pos, af, g⟩ A L R := by
  intro φ a w K Q hm he hk
  obtain ⟨φ1, hle, hm1⟩ := hL.mem [] φ w hm.mem
  rw [List.nil_append] at hm1
  have hv := ha.alls (φ := φ1) (a := a) fun x hx B hB => by
    obtain ⟨D, h1, h2⟩ := hB
    exact h2 φ1 _ hm1.facts (D.mono hle (he x (by simp [Op.operands, Call.operands, hx]) D (.rfl' h1)))
  unfold Oper.wp
  rw [run_enter hc]
  refine (hF φ1 w _ hv ⟨hm1.base, by simp, List.Pairwise.nil⟩).mono ?_
  rintro e w' ⟨i, v, φ', rfl, h1, h2⟩
  have hk2 : Kpt [] w w' := by have := h2.kept; simpa [names] using this
  refine hk (fun b i => if b < w.heap.size then φ b i else φ' b i) v w' ⟨⟨fun b i u hu => ?_, by simp, List.Pairwise.nil⟩, hk2, by simp [names], fun b i hb => if_pos hb⟩ (hR _ _ _ h1)
  split at hu
  · rename_i hb
    exact h2.mem.base b i u (by rw [h2.old b i hb]; exact hle _ _ _ hu)
  · exact h2.mem.base b i u hu
end
end Go.Proofs.Ytpfojangcgffkaa

/- Rules: slices of arrays of one's own; copy into them; three-index slices. Own work. -/
namespace Go.Proofs.Ytpfojangcgffkaa
open Go.RowKit
set_option linter.unusedVariables false
set_option linter.unusedSimpArgs false
section
variable {P : Program} {c : Ctx} {A : Nat → Option VP} {L : List Item} {d : Option Tmp} {ty : TypeId} {pos : String} {af : Array Edge} {g : Option (Nat × Bool)}
variable {α : Type} {T : Ty α}
/-- The whole of an array by its address. -/
theorem op_sliceOwn {x : Operand} {t e : TypeId} {n b o sz : Nat} (hx : Ev A L x (Is (.pointer (some ⟨b, o, none⟩)))) (hu : P.underlying t = some (.array n e)) (hs : (P.info? e).map (·.size) = some sz) :
    OpP P c ⟨d, .slice t x none none none, ty, pos, af, g⟩ A L (Is (.slice (some ⟨b, o, none⟩) n n)) :=
  opp fun φ a w hh he => by
    have h1 : a.eval x = .pointer (some ⟨b, o, none⟩) := he x (by simp [Op.operands]) _ hx
    refine ⟨_, ?_, rfl⟩
    simp only [execOp, h1]
    refine run_val ?_
    simp only [Instr.sliceAt, Sem.run_bind, run_underlying hu, Result.andThen_ok, Instr.sureAddr, Sem.run_pure, Option.map_none, Instr.sliceBounds, run_sizeOf hs]
    simp [Addr.add]
theorem run_firstCells {w : World} {b o m size : Nat} {vs : List Value} {n cp : Nat} (hl : vs.length = m * size) (h : ∀ j v, vs[j]? = some v → w.cell? ⟨b, o + j, none⟩ = some v) : (Builtin.firstCells size m (.slice (some ⟨b, o, none⟩) n cp)).run P w = .ok vs.toArray w := by
  simp only [Builtin.firstCells, loadCells]
  rw [← hl, run_loadCellsFrom vs 0 #[] (fun j v hj => by rw [Nat.zero_add]; exact h j v hj)]
  simp
theorem flat_take {xs : List α} : ∀ m : Nat, (xs.take m).flatMap T.cells = (xs.flatMap T.cells).take (m * T.size) := by
  induction xs with
  | nil => intro m; simp
  | cons x xs ih =>
    intro m
    cases m with
    | zero => simp
    | succ m =>
      rw [List.take_succ_cons, List.flatMap_cons, List.flatMap_cons, ih, List.take_append, T.len x, List.take_of_length_le (l := T.cells x) (by rw [T.len]; rw [Nat.add_mul]; omega)]
      congr 2; rw [Nat.add_mul]; omega
/-- copy into an array of one's own. -/
theorem op_copyOwn {x y : Operand} {t t2 e t0 : TypeId} {b o n cp m : Nat} {As : List VP} {ys : List α} {L' : List Item} (hx : Ev A L x (Is (.slice (some ⟨b, o, none⟩) n cp))) (hy : Ev A L y (IsSl T ys)) (hu : P.underlying t = some (.slice e)) (hs : (P.info? e).map (·.size) = some T.size)
    (hm : m = min ys.length n) (hr : Repl L (blk b t0 As) (blk b t0 (ovr As o ((ys.take m).flatMap T.cells))) L') (hl : o + m * T.size ≤ As.length) :
    OpS P c ⟨d, .call { callee := .builtin .copy, args := #[x, y], argTypes := #[t, t2] }, ty, pos, af, g⟩ A L (fun _ : Unit => Is (.int .i64 (m : Int))) (fun _ => L') := by
  intro φ a w K Q hh he hk
  have h1 : a.eval x = .slice (some ⟨b, o, none⟩) n cp := he x (by simp [Op.operands, Call.operands]) _ hx
  obtain ⟨ad, n2, cp2, h2, h3⟩ : (IsSl T ys).ok φ (a.eval y) := he y (by simp [Op.operands, Call.operands]) _ hy
  have hn2 := h3.1
  obtain ⟨flat, f1, f2, f3, f4⟩ := sl_flat hh.mem.base h3
  obtain ⟨vs, v1, v2, v3⟩ := own_blk hh hr.mem
  have v4 := v2.len
  have hmn : Nat.min n2 n = m := by rw [hm, hn2]
  have hmy : m ≤ ys.length := by rw [hm]; exact Nat.min_le_left _ _
  have hus : (flat.take (m * T.size)).length = m * T.size := by
    rw [List.length_take, f1]
    exact Nat.min_eq_left (Nat.mul_le_mul_right _ hmy)
  have hall : Alls φ ((ys.take m).flatMap T.cells) (flat.take (m * T.size)) := by rw [flat_take]; exact f2.take _
  have hone : ones (flat.take (m * T.size)) := fun u hu => f3 u (List.mem_of_mem_take hu)
  have hst := run_storeCells_at (P := P) b o t0 (flat.take (m * T.size)) 0 vs.toArray w v1 (by simp only [List.size_toArray]; omega) hone
  have hfc : (Builtin.firstCells T.size m (.slice ad n2 cp2)).run P w = .ok (flat.take (m * T.size)).toArray w := by
    by_cases h0 : n2 = 0
    · have hm0 : m = 0 := by omega
      subst hm0
      simp only [Nat.zero_mul, List.take_zero]
      cases ad with
      | none => rfl
      | some ad => simp [Builtin.firstCells, loadCells, loadCellsFrom]
    · obtain ⟨b2, o2, rfl, f5⟩ := f4 h0
      refine run_firstCells hus fun j v hj => ?_
      have hlt : j < m * T.size := by
        have := (List.getElem?_eq_some_iff.1 hj).1
        omega
      rw [List.getElem?_take_of_lt hlt] at hj
      exact hh.mem.base _ _ _ (f5 j v hj)
  have hrun : (execOp a.eval ⟨d, .call { callee := .builtin .copy, args := #[x, y], argTypes := #[t, t2] }, ty, pos, af, g⟩).run P w = .ok (.value (.int .i64 (m : Int))) (w.setRow b (vs.take o ++ flat.take (m * T.size) ++ vs.drop (o + (flat.take (m * T.size)).length)).toArray) := by
    have h4 : (#[x, y].map a.eval) = #[.slice (some ⟨b, o, none⟩) n cp, .slice ad n2 cp2] := by simp [h1, h2]
    have h5 : (#[t, t2] : Array TypeId)[0]? = some t := rfl
    simp only [execOp, resolve, h4, Sem.run_bind, Sem.run_pure, Result.andThen_ok, invoke, builtin, Builtin.copy_, h5]
    simp only [run_underlying hu, Result.andThen_ok, Builtin.lenOf, Sem.run_pure, Sem.run_bind, List.getElem?_toArray, List.getElem?_cons_zero, List.getElem?_cons_succ, hmn, run_sizeOf hs, hfc]
    simp only [Nat.add_zero] at hst
    simp only [hst, Result.andThen_ok, Sem.run_pure]
    rfl
  unfold Oper.wp
  rw [hrun]
  refine hk () φ _ _ Fle.rfl' rfl (hh.upd hr (setRow_kpt _ _ _ _ (by simp [names, blk])) ?_ (fun b' hb' => .inr hb'))
  refine ⟨⟨vs.take o ++ flat.take (m * T.size) ++ vs.drop (o + (flat.take (m * T.size)).length), ?_, ?_, ?_⟩, fun b' hb' => ?_⟩
  · simp only [blk, Option.bind_some]
    exact setRow_heap w b _ _ _ _ v1
  · have h6 := hall.len
    rw [ovr_get _ As o (by rw [h6, hus]; exact hl), ← h6]
    exact ((v2.take o).append hall).append (v2.drop _)
  · intro u hu
    simp only [List.mem_append] at hu
    rcases hu with (hu | hu) | hu
    · exact v3 u (List.mem_of_mem_take hu)
    · exact hone u hu
    · exact v3 u (List.mem_of_mem_drop hu)
  · have := (hh.mem.items _ hr.mem).2 b' hb'
    exact ⟨by simp [World.setRow]; exact this.1, this.2⟩
/-- The same, the cells that come told. -/
theorem op_copyOwnB {x y : Operand} {t t2 e t0 : TypeId} {b o n cp m : Nat} {As Bs : List VP} {ys : List α} {L' : List Item} (hx : Ev A L x (Is (.slice (some ⟨b, o, none⟩) n cp))) (hy : Ev A L y (IsSl T ys)) (hu : P.underlying t = some (.slice e)) (hs : (P.info? e).map (·.size) = some T.size)
    (hm : m = min ys.length n) (hB : (ys.take m).flatMap T.cells = Bs) (hr : Repl L (blk b t0 As) (blk b t0 (ovr As o Bs)) L') (hl : o + m * T.size ≤ As.length) :
    OpS P c ⟨d, .call { callee := .builtin .copy, args := #[x, y], argTypes := #[t, t2] }, ty, pos, af, g⟩ A L (fun _ : Unit => Is (.int .i64 (m : Int))) (fun _ => L') := by
  subst hB
  exact op_copyOwn hx hy hu hs hm hr hl
/-- A part of a slice whose capacity is cut as well. -/
theorem SlAt.cut3 {φ : Fz} {a : Option Addr} {xs : List α} {n cp lo hi : Nat} (h : SlAt T φ a n cp xs) (h1 : lo ≤ hi) (h2 : hi ≤ n) : SlAt T φ (if hi = lo then a else a.map (·.add (lo * T.size))) (hi - lo) (hi - lo) ((xs.take hi).drop lo) := by
  obtain ⟨e1, e2, e3, e4⟩ := h
  refine ⟨by simp; omega, by omega, by omega, ?_⟩
  by_cases h0 : hi - lo = 0
  · exact .inl h0
  · rcases e4 with e4 | ⟨b, o, rfl, e4⟩
    · omega
    · refine .inr ⟨b, o + lo * T.size, ?_, fun k x hx => ?_⟩
      · rw [if_neg (by omega), Option.map_some, addr_add0]
      · rw [List.getElem?_drop] at hx
        have hlt : lo + k < hi := by
          have := (List.getElem?_eq_some_iff.1 hx).1
          rw [List.length_take] at this; omega
        rw [List.getElem?_take_of_lt hlt] at hx
        have := e4 (lo + k) x hx
        rw [Nat.add_assoc, ← Nat.add_mul]; exact this
theorem op_slice3 {x y z u : Operand} {t e : TypeId} {xs : List α} {l h : Nat} {k1 k2 k3 : IntKind} {i1 i2 i3 : Int} (hx : Ev A L x (IsSl T xs)) (hu : P.underlying t = some (.slice e)) (hs : (P.info? e).map (·.size) = some T.size) (hy : Ev A L y (Is (.int k1 i1))) (hz : Ev A L z (Is (.int k2 i2))) (hv : Ev A L u (Is (.int k3 i3)))
    (e1 : i1 = l) (e2 : i2 = h) (e3 : i3 = h) (h1 : l ≤ h) (h2 : h ≤ xs.length) : OpP P c ⟨d, .slice t x (some y) (some z) (some u), ty, pos, af, g⟩ A L (IsSl T ((xs.take h).drop l)) :=
  opp fun φ a w hm he => by
    obtain ⟨ad, n, cp, f1, f2⟩ : (IsSl T xs).ok φ (a.eval x) := he x (by simp [Op.operands]) _ hx
    have hn := f2.1
    have hcp := f2.2.1
    have g1 : a.eval y = .int k1 i1 := he y (by simp [Op.operands]) _ hy
    have g2 : a.eval z = .int k2 i2 := he z (by simp [Op.operands]) _ hz
    have g3 : a.eval u = .int k3 i3 := he u (by simp [Op.operands]) _ hv
    refine ⟨_, ?_, ⟨_, _, _, rfl, f2.cut3 h1 (by omega)⟩⟩
    simp only [execOp, f1]
    refine run_val ?_
    simp only [Instr.sliceAt, Sem.run_bind, run_underlying hu, Result.andThen_ok, Instr.slice, Option.map_some, Instr.sliceBounds, g1, g2, g3, run_bound (P := P) (y := k3) (k := k3) e3 (show h ≤ cp by omega), run_bound (P := P) (y := k2) (k := k2) e2 (Nat.le_refl h), run_bound (P := P) (y := k1) (k := k1) e1 h1, run_sizeOf hs, Sem.run_pure]
end
end Go.Proofs.Ytpfojangcgffkaa

/- The rules again, what memory holds told as one list. Own work. -/
namespace Go.Proofs.Ytpfojangcgffkaa
open Go.RowKit
set_option linter.unusedVariables false
set_option linter.unusedSimpArgs false
section
variable {P : Program} {c : Ctx} {A : Nat → Option VP} {L : List Item} {d : Option Tmp} {ty : TypeId} {pos : String} {af : Array Edge} {g : Option (Nat × Bool)}
theorem op_allocN {t : TypeId} {z : Value} {Rs : List VP} (hz : (P.info? t).map (·.zero) = some (some z)) (hR : (zcells z).map Is = Rs) (h1 : ((zcells z).all Value.oneCell') = true) : OpN P c ⟨d, .alloc t, ty, pos, af, g⟩ A L (fun b : Nat => .pointer (some ⟨b, 0, none⟩)) (fun b => blk b t Rs) := by
  subst hR; exact op_alloc hz h1
theorem op_storeN {t t0 : TypeId} {x y : Operand} {b o n : Nat} {D : VP} {As Bs Rs : List VP} {L' : List Item} (hx : Ev A L x (Is (.pointer (some ⟨b, o, none⟩)))) (hy : Ev A L y D) (hD : CellsOf D Bs) (hr : Repl L (blk b t0 As) (blk b t0 Rs) L')
    (hR : ovr As o Bs = Rs) (hn : (P.info? t).map (·.size) = some n) (hB : Nat.beq Bs.length n = true) (hl : Nat.ble (o + n) As.length = true) : OpS P c ⟨d, .store t x y, ty, pos, af, g⟩ A L (fun _ : Unit => Is undef) (fun _ => L') := by
  subst hR; exact op_store hx hy hD hr hn hB hl
theorem op_loadPtrsN {t t0 : TypeId} {x : Operand} {b o n : Nat} {As Rs : List VP} {D : TypeDesc} (hx : Ev A L x (Is (.pointer (some ⟨b, o, none⟩)))) (hL : blk b t0 As ∈ L) (hu : P.underlying t = some D) (hD : aggB D = true) (hn : (P.info? t).map (·.size) = some n) (hl : Nat.ble (o + n) As.length = true) (hR : (As.drop o).take n = Rs) :
    OpP P c ⟨d, .load t x, ty, pos, af, g⟩ A L (IsAgg Rs) := by
  subst hR; exact op_loadPtrs hx hL hu hD hn hl
theorem op_loadRefsN {t : TypeId} {x : Operand} {As Rs : List VP} {n : Nat} {D : TypeDesc} (hx : Ev A L x (IsRef As)) (hu : P.underlying t = some D) (hD : aggB D = true) (hn : (P.info? t).map (·.size) = some n) (hl : Nat.ble n As.length = true) (hR : As.take n = Rs) : OpP P c ⟨d, .load t x, ty, pos, af, g⟩ A L (IsAgg Rs) := by
  subst hR; exact op_loadRefs hx hu hD hn hl
theorem op_fieldRefN {s : TypeId} {x : Operand} {i n k : Nat} {As Rs : List VP} {fs : Array Field} {f : Field} (hx : Ev A L x (IsRef As)) (hu : P.underlying s = some (.struct fs)) (hf : fs[i]? = some f) (hn : (P.info? f.type).map (·.size) = some (n + 1)) (hk : f.offset = k) (hR : As.drop k = Rs) :
    OpP P c ⟨d, .fieldAddr s x i, ty, pos, af, g⟩ A L (IsRef Rs) := by
  subst hR; exact op_fieldRef hx hu hf hn hk
theorem op_buildN {t : TypeId} {ps : Array (Nat × Operand)} {fs : List Field} {zs : List Value} {pl : List (Nat × Nat)} {qs : List (Nat × List VP)} {Rs0 Rs : List VP} (hu : P.underlying t = some (.struct fs.toArray)) (hz : (P.info? t).map (·.zero) = some (some (.agg zs.toArray))) (h1 : (zs.all Value.oneCell') = true)
    (hpl : sizesOf P fs = some pl) (hq : PartsE A L ps.toList qs) (hf : fillL (fun i => pl[i]?) (zs.map Is) qs = some Rs0) (hR : Rs0 = Rs) : OpP P c ⟨d, .build t ps, ty, pos, af, g⟩ A L (IsAgg Rs) := by
  subst hR; exact op_build hu hz h1 hpl hq hf
theorem op_storeWN {t t0 : TypeId} {y : Operand} {s n : Nat} {D : VP} {As Bs Rs : List VP} (hy : Ev A L y D) (hD : CellsOf D Bs) (hn : (P.info? t).map (·.size) = some n) (hB : Nat.beq Bs.length n = true) (hl : Nat.ble (0 + n) As.length = true) (hR : ovr As 0 Bs = Rs) :
    OpW P c ⟨none, .store t (.tmp s) y, ty, pos, af, g⟩ A L s (fun b : Nat => .pointer (some ⟨b, 0, none⟩)) (fun b => blk b t0 As) (fun b => blk b t0 Rs) := by
  subst hR; exact op_storeW hy hD hn hB hl
/-- A store at a place that is no literal. -/
theorem op_storeA {t t0 : TypeId} {x y : Operand} {b o n : Nat} {D : VP} {As Bs Rs : List VP} {L' : List Item} (hx : Ev A L x (Is (.pointer (some ⟨b, o, none⟩)))) (hy : Ev A L y D) (hD : CellsOf D Bs) (hr : Repl L (blk b t0 As) (blk b t0 Rs) L')
    (hR : ovr As o Bs = Rs) (hn : (P.info? t).map (·.size) = some n) (hB : Nat.beq Bs.length n = true) (hl : o + n ≤ As.length) : OpS P c ⟨d, .store t x y, ty, pos, af, g⟩ A L (fun _ : Unit => Is undef) (fun _ => L') := by
  subst hR; exact op_store hx hy hD hr hn hB (Nat.ble_eq_true_of_le hl)
/-- A load at a place that is no literal. -/
theorem op_loadPtrA {t t0 : TypeId} {x : Operand} {b o : Nat} {As : List VP} {B : VP} {D : TypeDesc} (hx : Ev A L x (Is (.pointer (some ⟨b, o, none⟩)))) (hL : blk b t0 As ∈ L) (hu : P.underlying t = some D) (hD : aggB D = false) (h0 : As[o]? = some B) : OpP P c ⟨d, .load t x, ty, pos, af, g⟩ A L B := op_loadPtr hx hL hu hD h0
theorem Repl.same {L L' : List Item} {it it' : Item} (h : Repl L it it' L') : it = it' → L' = L := by
  induction h with
  | head a b L => rintro rfl; rfl
  | tail x h ih => intro e; rw [ih e]
/-- What lies in memory, told otherwise. -/
theorem JC_blkEq {Q : Exit → Act → World → Prop} {N : Nat} {E : Env} {b : Nat} {t : TypeId} {As As' : List VP} {L' : List Item} {x : Code} (hr : Repl L (blk b t As) (blk b t As') L') (h : As = As') (k : JC P c N x E L' Q) : JC P c N x E L Q := by
  subst h
  rw [hr.same rfl] at k; exact k
theorem JC_bufEq {Q : Exit → Act → World → Prop} {N : Nat} {E : Env} {α : Type} {T : Ty α} {v : Value} {e : TypeId} {xs xs' : List α} {L' : List Item} {x : Code} (hr : Repl L (buf v e T xs) (buf v e T xs') L') (h : xs = xs') (k : JC P c N x E L' Q) : JC P c N x E L Q := by
  subst h
  rw [hr.same rfl] at k; exact k
end
end Go.Proofs.Ytpfojangcgffkaa

/- Rules: append onto what the stretch itself has made. Own work. -/
namespace Go.Proofs.Ytpfojangcgffkaa
open Go.RowKit
set_option linter.unusedVariables false
set_option linter.unusedSimpArgs false
section
variable {P : Program} {c : Ctx} {A : Nat → Option VP} {L : List Item} {d : Option Tmp} {ty : TypeId} {pos : String} {af : Array Edge} {g : Option (Nat × Bool)}
variable {α : Type} {T : Ty α} {xs ys : List α}
theorem op_appT {s : Tmp} {y : Operand} {t e : TypeId} (hy : Ev A L y (IsSl T ys)) (hT : AppT P t e T.size) (hlen : xs.length + ys.length ≤ 1048576) :
    OpT P c ⟨d, .call { callee := .builtin .append, args := #[.tmp s, y], argTypes := #[t, t] }, ty, pos, af, g⟩ A L s (slV xs.length) (fun i => buf (slV xs.length i) e T xs) (slV (xs ++ ys).length) (fun i => buf (slV (xs ++ ys).length i) e T (xs ++ ys)) := by
  intro φ a w K Q i0 hm h1 he hk
  have h2 : (IsSl T ys).ok φ (a.eval y) := he y (by simp [Op.operands, Call.operands]) _ hy
  have hit := hm.mem.items _ (List.mem_cons_self ..)
  obtain ⟨flat, f1, f2, f3⟩ := buf_owns hit
  obtain ⟨i, w', flat', r1, r2, r3, r4, r5, r6⟩ := run_app2 (x := .tmp s) (d := d) (ty := ty) (pos := pos) (af := af) (g := g) hT hm.mem.base h1 f3 f1 f2 h2 hlen
  unfold Oper.wp
  rw [r1]
  have hm1 : HP ⟨w, φ, names [buf (slV xs.length i0) e T xs], []⟩ φ [buf (slV xs.length i0) e T xs] w := HP.start ⟨hm.mem.base, fun it hi => by rw [List.mem_singleton] at hi; subst hi; exact hit, List.pairwise_singleton _ _⟩
  exact hk i φ w' (hp_app (L := []) hm1 r2 r3 r4 r5 r6)
/-- Append onto memory from outside the stretch. -/
theorem op_appG {x y : Operand} {i0 : Option Addr × Nat} {t e : TypeId} (hx : Ev A L x (Is (slV xs.length i0))) (hy : Ev A L y (IsSl T ys)) (hT : AppT P t e T.size) (hlen : xs.length + ys.length ≤ 1048576) :
    ∀ φ a w K Q, HP c φ (buf (slV xs.length i0) e T xs :: L) w → (∀ z, z ∈ (Op.call { callee := .builtin .append, args := #[x, y], argTypes := #[t, t] }).operands → ∀ B, Ev A L z B → B.ok φ (a.eval z)) →
      (∀ i' φ' w', HP ⟨w, φ, names [buf (slV xs.length i0) e T xs], []⟩ φ' [buf (slV (xs ++ ys).length i') e T (xs ++ ys)] w' → K (a.put d (slV (xs ++ ys).length i')) w') → (⟨d, .call { callee := .builtin .append, args := #[x, y], argTypes := #[t, t] }, ty, pos, af, g⟩ : Oper).wp P a w K Q := by
  intro φ a w K Q hm he hk
  have h1 : a.eval x = slV xs.length i0 := he x (by simp [Op.operands, Call.operands]) _ hx
  have h2 : (IsSl T ys).ok φ (a.eval y) := he y (by simp [Op.operands, Call.operands]) _ hy
  have hit := hm.mem.items _ (List.mem_cons_self ..)
  obtain ⟨flat, f1, f2, f3⟩ := buf_owns hit
  obtain ⟨i, w', flat', r1, r2, r3, r4, r5, r6⟩ := run_app2 (x := x) (d := d) (ty := ty) (pos := pos) (af := af) (g := g) hT hm.mem.base h1 f3 f1 f2 h2 hlen
  unfold Oper.wp
  rw [r1]
  have hm1 : HP ⟨w, φ, names [buf (slV xs.length i0) e T xs], []⟩ φ [buf (slV xs.length i0) e T xs] w := HP.start ⟨hm.mem.base, fun it hi => by rw [List.mem_singleton] at hi; subst hi; exact hit, List.pairwise_singleton _ _⟩
  exact hk i φ w' (hp_app (L := []) hm1 r2 r3 r4 r5 r6)
end
end Go.Proofs.Ytpfojangcgffkaa

/- Inside a fence: regions, tests, blocks, loops; functions that hold a range over a function. Own work. -/
namespace Go.Proofs.Ytpfojangcgffkaa
open Go.RowKit
set_option linter.unusedVariables false
set_option linter.unusedSimpArgs false
/-- The fence that lets all in, for an activation or for a round of a loop. -/
def WF (r : Option Nat) : Fence := { Fence.wide with round := r }
section
variable {P : Program} {r : Option Nat} {n : Nat}
theorem WF.room (k : Nat) : (WF r).room k := fun _ h => by simp [WF, Fence.wide] at h
theorem WF.deep : (WF r).depth.isSome = true → 1 ≤ n := fun h => by simp [WF, Fence.wide] at h
theorem calls_in {f : FuncId} {args : Array Value} {w : World} {R : Ending → World → Prop} (h : Calls P f args w R) : CallsIn (WF r) n P f args w R :=
  (callsIn_wide (n := n)).2 h
theorem rows_in {row : String} {args : Array Value} {w : World} {R : Value → World → Prop} (h : Rows P row args w R) : RowsIn (WF r) n P row args w R := fun c cs _ =>
  let ⟨v, w', h1, h2⟩ := h c cs
  ⟨v, w', h1, stepsIn_wide.2 h2⟩
theorem op_in {o : Oper} {a : Act} {w : World} {K K' : Act → World → Prop} {Q : Exit → Act → World → Prop} (hd : ∀ c, o.op ≠ .defer c) (hK : ∀ a w, K a w → K' a w) (h : o.wp P a w K Q) : o.wpIn (WF r) n P a w K' Q := by
  refine ⟨fun _ _ => trivial, ?_⟩
  rw [Oper.semAt_eq _ _ _ hd]
  unfold Oper.wp at h
  generalize (execOp a.eval o).run P w = res at *
  cases res with
  | ok x w' =>
    cases x <;> simp only [Oper.upon, Oper.uponIn] at h ⊢
    all_goals first
      | exact hK _ _ h
      | exact ⟨WF.deep, CallsIn.mono (calls_in h) fun e w'' he => by cases e <;> first | exact hK _ _ he | exact he⟩
      | exact ⟨WF.deep, RowsIn.mono (rows_in h) fun v w'' he => hK _ _ he⟩
  | halt x w' => cases x <;> simp only [Oper.upon, Oper.uponIn] at h ⊢ <;> exact h
def noDefer (l : List Oper) : Bool := l.all fun o => match o.op with
  | .defer _ => false
  | _ => true
theorem noDefer_spec {l : List Oper} (h : noDefer l = true) {o : Oper} (ho : o ∈ l) : ∀ c, o.op ≠ .defer c := fun c e => by
  have := List.all_eq_true.1 h o ho
  rw [e] at this; cases this
theorem wpList_in {ops : Array Oper} {Q : Exit → Act → World → Prop} (hq : ¬ LetsOut Q) : ∀ (l : List Oper) (a : Act) (w : World), noDefer l = true → wpList P ops Q l a w → wpListIn (WF r) n P ops Q l a w
  | [], a, w, _, h => h
  | o :: l, a, w, hn, h => by
    have hn' : noDefer l = true := by
      unfold noDefer at *
      rw [List.all_cons, Bool.and_eq_true] at hn; exact hn.2
    unfold wpList at h
    unfold wpListIn
    cases hw : Region.wanted o (yielded ops a.tmps) with
    | true =>
      rw [hw] at h
      simp only [if_true] at h ⊢
      rcases h with h | h
      · exact op_in (noDefer_spec hn (List.mem_cons_self ..)) (fun a w => wpList_in hq l a w hn') h
      · exact absurd h.2 hq
    | false =>
      rw [hw] at h
      simp only [Bool.false_eq_true, if_false] at h ⊢
      exact ⟨fun _ _ => trivial, wpList_in hq l _ w hn' h⟩
theorem wpAny_in {md : Region.Mode} {ops : Array Oper} {Q : Exit → Act → World → Prop} (hq : ¬ LetsOut Q) (hn : noDefer ops.toList = true) : ∀ (fuel : Nat) (listed : Array Bool) (a : Act) (w : World), wpAny P md ops Q fuel listed a w → wpAnyIn (WF r) n P md ops Q fuel listed a w
  | 0, _, _, _, h => h
  | fuel + 1, listed, a, w, h => by
    refine ⟨h.1, fun i hi => ?_⟩
    have h2 := h.2 i hi
    unfold wpOp at h2
    unfold wpOpIn
    cases ho : ops[i]? with
    | none =>
      rw [ho] at h2
      exact wpAny_in hq hn fuel _ a w h2
    | some o =>
      rw [ho] at h2
      dsimp only at h2 ⊢
      cases hw : Region.wanted o (yielded ops a.tmps) with
      | true =>
        rw [hw] at h2
        simp only [if_true] at h2 ⊢
        rcases h2 with h2 | h2
        · exact op_in (noDefer_spec hn (Array.mem_toList_iff.2 (Array.mem_of_getElem? ho))) (fun a w => wpAny_in hq hn fuel _ a w) h2
        · exact absurd h2.2 hq
      | false =>
        rw [hw] at h2
        simp only [Bool.false_eq_true, if_false] at h2 ⊢
        exact ⟨fun _ _ => trivial, wpAny_in hq hn fuel _ _ w h2⟩
/-! ### Judgements -/
variable {c : Ctx} {N : Nat} {E : Env} {L : List Item} {Q : Exit → Act → World → Prop}
def JCI (P : Program) (r : Option Nat) (n : Nat) (c : Ctx) (N : Nat) (code : Code) (E : Env) (L : List Item) (Q : Exit → Act → World → Prop) : Prop :=
  ∀ φ a w, St c N (look E) L φ a w → code.wpIn (WF r) n P Q a w
theorem JCI_region {id : Nat} {l : List Oper} (hq : ¬ LetsOut Q) (hn : noDefer l = true) (h : JL P l.toArray Q c N l E L) : JCI P r n c N (Code.region id l.toArray false) E L Q := fun φ a w st =>
  wpIn_region_lit (wpList_in hq l a w hn (h φ a w st))
theorem JD_any {l : List Oper} {nd : List Nat} (hB : (goodB l.toArray nd && ordB l.toArray nd && opsAll (fun _ o => dstB N o.dst) l 0) = true) (h : JD P l.toArray Q c N nd 0 l E L) {φ : Fz} {a : Act} {w : World} (st : St c N (look E) L φ a w) :
    wpAny P .any l.toArray Q l.toArray.size (Array.replicate l.toArray.size false) a { w with drawn := w.drawn + 1 } := by
  simp only [Bool.and_eq_true] at hB
  have h1 := h (good_of hB.1.1 hB.1.2) (by simpa using hB.2) (by simp) (fun i => by simp) φ a { w with drawn := w.drawn + 1 } (Array.replicate l.toArray.size false)
    ⟨⟨by simp, fun i hi => (by rw [getD_replicate_false] at hi; cases hi)⟩, fun i hi => ⟨fun h => (by rw [getD_in (by simpa using hi) (getD_replicate_false _ _)] at h; cases h), fun h => by omega⟩⟩
    ⟨st.defers, st.size, st.env, st.mem.drew⟩
  have hu : unl l.toArray.size (Array.replicate l.toArray.size false) = l.toArray.size := by
    unfold unl
    have : ∀ n, n ≤ l.toArray.size → (List.range n).countP (fun i => !(Array.replicate l.toArray.size false).getD i true) = n := fun n => by
      intro hn
      rw [List.countP_eq_length.2 (fun i hi => by
        have : i < n := List.mem_range.1 hi
        rw [getD_in (by simp at hn ⊢; omega) (getD_replicate_false _ _)]; rfl), List.length_range]
    exact this _ (Nat.le_refl _)
  rw [hu] at h1
  exact h1
theorem JCI_dr {id : Nat} {l : List Oper} (hq : ¬ LetsOut Q) (hn : noDefer l = true) (hm : P.follows .mixedOrders = true) (hB : (goodB l.toArray (needs l []) && ordB l.toArray (needs l []) && opsAll (fun _ o => dstB N o.dst) l 0) = true) (h : JD P l.toArray Q c N (needs l []) 0 l E L) :
    JCI P r n c N (Code.region id l.toArray true) E L Q := fun φ a w st => wpIn_region_any hm (wpAny_in hq (by simpa using hn) _ _ _ _ (JD_any hB h st))
theorem JCI_seq {x y : Code} (h : JCI P r n c N x E L (Exit.then (y.wpIn (WF r) n P Q) Q)) : JCI P r n c N (Code.seq x y) E L Q := fun φ a w st => wpIn_seq (h φ a w st)
theorem JCI_skip (h : JQ c N E L Q .normal) : JCI P r n c N Code.skip E L Q := fun φ a w st => wpIn_skip (h φ a w st)
theorem JCI_block {id : Nat} {x : Code} (h : JCI P r n c N x E L (Exit.inBlock id Q)) : JCI P r n c N (Code.block id x) E L Q := fun φ a w st => wpIn_block (h φ a w st)
theorem JCI_exit {id : Nat} (h : JQ c N E L Q (.exit id)) : JCI P r n c N (Code.exit id) E L Q := fun φ a w st => wpIn_exit (h φ a w st)
theorem JCI_ret (h : JQ c N E L Q .ret) : JCI P r n c N Code.ret E L Q := fun φ a w st => wpIn_ret (h φ a w st)
theorem JCI_cond {x : Operand} {y z : Code} {b : Bool} (hx : Ev (look E) L x (Is (.bool b))) (ht : b = true → JCI P r n c N y E L Q) (hf : b = false → JCI P r n c N z E L Q) : JCI P r n c N (Code.cond x y z) E L Q := fun φ a w st =>
  wpIn_cond_split (st.ev hx) (fun h => ht h φ a w st) (fun h => hf h φ a w st)
theorem JQ_thenI {y : Code} {Q' : Exit → Act → World → Prop} (h : JCI P r n c N y E L Q) : JQ c N E L (Exit.then (y.wpIn (WF r) n P Q) Q') .normal := h
theorem wpIn_loop_ghost {F : Fence} {a : Act} {w : World} {x : Code} (I : Nat → Act → World → Prop) (n₀ : Nat) (h₀ : I n₀ a w)
    (round : ∀ k a w, I k a w → x.wpIn F n P (Exit.then (fun a' w' => ∃ k', k' < k ∧ I k' a' w') Q) a w) : (Code.loop x).wpIn F n P Q a w := by
  refine wpIn_loop (fun a w => ∃ n, I n a w) (fun a w => leastOf (fun n => I n a w)) ⟨n₀, h₀⟩ ?_
  intro a w hI
  refine wpIn_mono (round _ a w (leastOf_spec hI).1) ?_
  intro e a' w' hq
  cases e with
  | normal =>
    obtain ⟨n', hlt, hI'⟩ := hq
    exact show (∃ n, I n a' w') ∧ leastOf (fun n => I n a' w') < leastOf (fun n => I n a w) from ⟨⟨n', hI'⟩, Nat.lt_of_le_of_lt ((leastOf_spec ⟨n', hI'⟩).2 n' hI') hlt⟩
  | exit id => exact hq
  | goto l => exact hq
  | ret => exact hq
  | panic ch => exact hq
  | outgrown => exact hq
theorem JCI_loop {x : Code} {ι : Type} (I : ι → Prop) (Ef : ι → Env) (Lf : ι → List Item) (μ : ι → Nat) (i0 : ι) (h0 : I i0) (hE : ESub L E (Ef i0)) (hL : SubP (Lf i0) L)
    (round : ∀ i, I i → JCI P r n c N x (Ef i) (Lf i) (Exit.then (Round c N I Ef Lf μ (μ i)) Q)) : JCI P r n c N (Code.loop x) E L Q := by
  intro φ a w st
  refine wpIn_loop_ghost (fun n a w => ∃ i φ, I i ∧ μ i = n ∧ St c N (look (Ef i)) (Lf i) φ a w) (μ i0) ⟨i0, φ, h0, rfl, st.lessP hE hL⟩ ?_
  rintro k a w ⟨i, φ, hi, rfl, st⟩
  refine wpIn_mono (round i hi φ a w st) ?_
  intro e a w h
  cases e with
  | normal => obtain ⟨i', φ, hi', hlt, st⟩ := h; exact ⟨μ i', hlt, i', φ, hi', rfl, st⟩
  | exit id => exact h
  | goto l => exact h
  | ret => exact h
  | panic ch => exact h
  | outgrown => exact h
/-! ### Loops over functions: their record, the block behind it -/
/-- The record of a loop. -/
def loopI (l : Nat) (rec : Loop) : Item := ⟨some l, fun _ o => o = some (.loop rec), fun _ h => h⟩
/-- The block for what the rounds put off: nothing. -/
def defI (d : Nat) : Item := ⟨some d, fun _ o => o = some (.deferred (some [])), fun _ h => h⟩
theorem kpt_putObj (X : List Nat) (w : World) (b : Nat) (o : Obj) (hb : b ∈ X) : Kpt X w (w.putObj b o) :=
  ⟨rfl, rfl, rfl, by simp, fun k _ hk => World.putObj_heap_other (fun e => hk (by rw [e]; exact hb))⟩
theorem HP.putLoop {φ : Fz} {w : World} {l : Nat} {rec rec' : Loop} {L' : List Item} (h : HP c φ L w) (hr : Repl L (loopI l rec) (loopI l rec') L') : w.heap[l]? = some (.loop rec) ∧ HP c φ L' (w.putObj l (.loop rec')) := by
  have hit := h.mem.items _ hr.mem
  have h1 : w.heap[l]? = some (.loop rec) := hit.1
  have hlt : l < w.heap.size := (hit.2 l rfl).1
  refine ⟨h1, h.upd hr (kpt_putObj _ _ _ _ (by simp [names, loopI])) ⟨?_, fun b hb => ?_⟩ fun b hb => .inr hb⟩
  · exact World.putObj_heap_same hlt
  · have e : b = l := by injection hb with hb; exact hb.symm
    subst e
    exact ⟨by simpa using hlt, (hit.2 b rfl).2⟩
theorem Fn.enterI {f : FuncId} {fn : Func} {x : Code} {As : List VP} {ι : Type} {R : ι → VP} {L' : ι → List Item} (hf : P.funcs[f]? = some fn) (hN : fn.ntmps = N) (hb : fn.body = some x) (hn : Nat.ble As.length N = true)
    (h : ∀ c : Ctx, (c.X = [] ∧ c.ds = []) → JCI P none 0 c N x (argE 0 As) [] (bodyPostM (WF none) 0 P fn (Post c R L'))) : Fn P f As [] R L' := by
  subst hN
  intro φ w vs hA hm
  have hlen := hA.len
  have hn' : As.length ≤ fn.ntmps := Nat.le_of_ble_eq_true hn
  refine callsIn_wide.1 (callsIn_of_wp_marks (F := WF none) hf hb trivial (h ⟨w, φ, [], []⟩ ⟨rfl, rfl⟩ φ _ w ⟨rfl, ?_, ?_, HP.start hm⟩) rfl)
  · simp only [Array.size_append, List.size_toArray, Array.size_replicate]; omega
  · refine argE_look As vs 0 hA fun j hj => ?_
    simp only [Nat.zero_add]
    rw [Array.getD_eq_getD_getElem?, Array.getElem?_append_left (by simpa using hj), List.getD_eq_getElem?_getD]
    simp
theorem FnP.enterI {f : FuncId} {fn : Func} {x : Code} {As : List VP} {R : VP} (hf : P.funcs[f]? = some fn) (hN : fn.ntmps = N) (hb : fn.body = some x) (hn : Nat.ble As.length N = true)
    (h : ∀ c : Ctx, (c.X = [] ∧ c.ds = []) → JCI P none 0 c N x (argE 0 As) [] (bodyPostM (WF none) 0 P fn (Post c (fun _ : Unit => R) (fun _ => [])))) : FnP P f As R := Fn.enterI hf hN hb hn h
theorem results_run {fn : Func} {rs : List ResultVar} {Bs : List VP} (hr : fn.results = rs.toArray) (hE : RetE P E L rs Bs) {φ : Fz} {a : Act} {w : World} (st : St c N (look E) L φ a w) : ∃ v, (results fn a.tmps).run P w = .ok v w ∧ (retVP Bs).ok φ v := by
  obtain ⟨vs, h1, h2⟩ := run_results (A := look E) st hE
  have hlen := h2.len
  have hrun : (results fn a.tmps).run P w = .ok (if h : vs.toArray.size = 1 then vs.toArray[0] else .tuple vs.toArray) w := by
    unfold results
    rw [hr, List.mapM_toArray]
    simp only [Sem.run_bind, Sem.run_map, Sem.run_pure]
    erw [h1]
    rfl
  refine ⟨_, hrun, ?_⟩
  match Bs, vs, h2 with
  | [], [], _ => exact ⟨[], rfl, trivial⟩
  | [B], [v], h => exact h.1
  | B :: B' :: Bs, v :: v' :: vs, h => exact ⟨_, rfl, h⟩
/-- A return of a function that holds a range over a function, ahead of the loop. -/
theorem JQ_retM {fn : Func} {ι : Type} {R : ι → VP} {L' : ι → List Item} {rs : List ResultVar} {Bs : List VP} (i : ι) (hr : fn.results = rs.toArray) (hE : RetE P E L rs Bs) (hB : SubL L (retVP Bs) (R i)) (hL : SubP (L' i) L) (hD0 : c.ds = []) : JQ c N E L (bodyPostM (WF none) 0 P fn (Post c R L')) .ret := by
  intro φ a w st
  obtain ⟨v, h1, h2⟩ := results_run hr hE st
  have h3 : a.defers = [] := st.defers.trans hD0
  show LeavesInM _ _ _ _ _ _ a.defers .returning w
  rw [h3]
  exact ⟨v, h1, i, v, φ, rfl, hB _ _ st.mem.mem.facts h2, st.mem.lessP hL⟩
/-- Behind the loop. -/
theorem JQ_retD {fn : Func} {ι : Type} {R : ι → VP} {Lr : ι → List Item} {rs : List ResultVar} {Bs : List VP} {d : Nat} {L' : List Item} (i : ι) (c0 : Ctx) (hr : fn.results = rs.toArray) (hd : Drop1 L (defI d) L') (hE : RetE P E L' rs Bs) (hB : SubL L' (retVP Bs) (R i)) (hL : SubP (Lr i) L') (hc : c = { c0 with ds := [{ target := .collected d, args := #[] }] }) : JQ c N E L (bodyPostM (WF none) 0 P fn (Post c0 R Lr)) .ret := by
  intro φ a w st
  have h3 : a.defers = [{ target := .collected d, args := #[] }] := by rw [st.defers, hc]
  have hit := st.mem.mem.items _ hd.mem.1
  have hK : w.heap[d]? = some (.deferred (some [])) := hit.1
  have hlt : d < w.heap.size := (hit.2 d rfl).1
  have hmem : HP c φ L' (w.putObj d (.deferred none)) := by
    have hs := hd.sep st.mem.mem.sep
    refine ⟨⟨fun b i v e => ?_, fun it hi => ?_, hs.1⟩, ?_, fun b hb => ?_, st.mem.old⟩
    · have h1 := st.mem.mem.base b i v e
      have hne : b ≠ d := fun e' => by
        have := (hit.2 d rfl).2 i
        rw [← e', e] at this; cases this
      rw [cell_kept (World.putObj_heap_other hne)]; exact h1
    · obtain ⟨h1, h2⟩ := st.mem.mem.items it (hd.mem.2 it hi)
      refine ⟨?_, fun b hb => ⟨by simpa using (h2 b hb).1, (h2 b hb).2⟩⟩
      cases hat : it.at_ with
      | none => rw [hat] at h1; exact h1
      | some b =>
        rw [hat] at h1
        simp only [Option.bind_some] at h1 ⊢
        have hne : b ≠ d := fun e => hs.2 it hi d rfl (by rw [hat, e])
        rw [World.putObj_heap_other hne]; exact h1
    · refine st.mem.kept.tr (kpt_putObj [d] w d _ (by simp)) fun y hy hl => ?_
      rw [List.mem_singleton] at hy
      subst hy
      exact (st.mem.mine y (mem_names.2 ⟨_, hd.mem.1, rfl⟩)).resolve_left (by omega)
    · obtain ⟨x, hx, hxb⟩ := mem_names.1 hb
      exact st.mem.mine b (mem_names.2 ⟨x, hd.mem.2 x hx, hxb⟩)
  have st' : St c N (look E) L' φ a (w.putObj d (.deferred none)) := ⟨st.defers, st.size, st.env, hmem⟩
  obtain ⟨v, h1, h2⟩ := results_run hr hE st'
  show LeavesInM _ _ _ _ _ _ a.defers .returning w
  rw [h3]
  refine ⟨by simp, .inl ⟨d, _, rfl, run_takeDeferred hK, v, h1, i, v, φ, rfl, hB _ _ st'.mem.mem.facts h2, ?_⟩⟩
  have h5 := st'.mem.lessP hL
  rw [hc] at h5
  exact ⟨h5.mem, h5.kept, h5.mine, h5.old⟩
end
end Go.Proofs.Ytpfojangcgffkaa

/- A loop over a function: its rounds, the call of yield, the statement. Own work. -/
namespace Go.Proofs.Ytpfojangcgffkaa
open Go.RowKit
set_option linter.unusedVariables false
set_option linter.unusedSimpArgs false
section
variable {P : Program} {r : Option Nat} {n : Nat} {c : Ctx} {N : Nat} {E : Env} {L : List Item} {Q : Exit → Act → World → Prop} {ops : Array Oper} {rest : List Oper}
def JLI (P : Program) (r : Option Nat) (n : Nat) (ops : Array Oper) (Q : Exit → Act → World → Prop) (c : Ctx) (N : Nat) (rest : List Oper) (E : Env) (L : List Item) : Prop :=
  ∀ φ a w, St c N (look E) L φ a w → wpListIn (WF r) n P ops Q rest a w
variable {d : Option Tmp} {ty : TypeId} {pos : String} {af : Array Edge} {t : Tmp} {op : Op}
theorem JLI_1 {F : VP} (hd : Nat.blt t N = true) (hn : noDefer [⟨some t, op, ty, pos, af, none⟩] = true) (hs : OpP P c ⟨some t, op, ty, pos, af, none⟩ (look E) L F) (h : JLI P r n ops Q c N rest ((t, F) :: E) L) : JLI P r n ops Q c N (⟨some t, op, ty, pos, af, none⟩ :: rest) E L := by
  intro φ a w st
  unfold wpListIn
  rw [if_pos (by simp [Region.wanted])]
  refine op_in (Q := Q) (noDefer_spec hn (List.mem_cons_self ..)) (fun _ _ h => h) ?_
  refine hs.toS φ a w _ _ st.mem (fun x _ B hx => st.ev hx) fun _ φ' v w' hle hv hm => h φ' _ _ ?_
  have h1 := st.put (d := some t) (B := F) (fun t' e => by injection e with e; subst e; exact Nat.le_of_ble_eq_true hd) hle hv hm
  rw [← look_putE] at h1
  exact h1
theorem JLI_nil (h : JQ c N E L Q .normal) : JLI P r n ops Q c N [] E L := fun φ a w st => h φ a w st
theorem JCI_regionI {id : Nat} {l : List Oper} (h : JLI P r n l.toArray Q c N l E L) : JCI P r n c N (Code.region id l.toArray false) E L Q := fun φ a w st => wpIn_region_lit (h φ a w st)
/-- The call of yield. -/
theorem JLI_yield {l : Nat} {rec : Loop} {x y p : Tmp} {ts : Array TypeId} {B : VP} {ι : Type} {L' : ι → List Item} (hcb : ∀ b i v, c.φ b i = some v → c.w.cell? ⟨b, i, none⟩ = some v) (hd : Nat.blt t N = true) (hx : look E x = some (Is (.func (.yield l) #[] #[]))) (hy : look E y = some B)
    (hL : loopI l rec ∈ L) (hp : rec.params = #[p])
    (hY : ∀ φ w v, Fle c.φ φ → Mem φ L w → B.ok φ v → RoundIn (WF none) (n - 1) P l rec.fn (rec.tmps.setIfInBounds p v) rec.assign rec.body w fun e w' => ∃ i φ', e = .returned (.bool true) ∧ HP ⟨w, φ, names L, []⟩ φ' (L' i) w')
    (h : ∀ i, JLI P none n ops Q c N rest ((t, Is (.bool true)) :: E) (L' i)) : JLI P none n ops Q c N (⟨some t, .call { callee := .value (.tmp x), args := #[.tmp y], argTypes := ts }, ty, pos, af, none⟩ :: rest) E L := by
  intro φ a w st
  unfold wpListIn
  rw [if_pos (by simp [Region.wanted])]
  have h1 : a.tmps.getD x undef = .func (.yield l) #[] #[] := st.env x _ hx
  have h2 : B.ok φ (a.tmps.getD y undef) := st.env y _ hy
  have h3 : w.heap[l]? = some (.loop rec) := (st.mem.mem.items _ hL).1
  have e1 : a.eval (.tmp x) = .func (.yield l) #[] #[] := h1
  have e2 : a.eval (.tmp y) = a.tmps.getD y undef := rfl
  have hrun : (execOp a.eval ⟨some t, .call { callee := .value (.tmp x), args := #[.tmp y], argTypes := ts }, ty, pos, af, none⟩).run P w = .ok (.round l rec.fn (rec.tmps.setIfInBounds p (a.tmps.getD y undef)) rec.assign rec.body) w := by
    have hy' := run_yield (P := P) (args := #[a.tmps.getD y undef]) h3 (by rw [hp]; rfl)
    rw [hp] at hy'
    have hm : (#[Operand.tmp y].map a.eval) = #[a.tmps.getD y undef] := by simp [e2]
    simp only [execOp, resolve, e1, Deferred.ofValue, hm, Sem.run_bind, Sem.run_pure, Result.andThen_ok, invoke]
    simpa using hy'
  refine ⟨fun _ _ => trivial, ?_⟩
  rw [Oper.semAt_eq _ _ _ (fun c e => by cases e), hrun]
  refine ⟨WF.deep, (hY φ w _ (st.mem.fle hcb) st.mem.mem h2).mono ?_⟩
  rintro e w' ⟨i, φ', rfl, h4⟩
  refine h i φ' _ _ ?_
  have h5 : HP c φ' (L' i ++ []) w' := HP.call (L := L) (by simpa using st.mem) h4
  rw [List.append_nil] at h5
  have h6 := st.put (d := some t) (B := Is (.bool true)) (v := .bool true) (fun t' e => by injection e with e; subst e; exact Nat.le_of_ble_eq_true hd) (h4.fle st.mem.mem.base) rfl h5
  rw [← look_putE] at h6
  exact h6
theorem JCI_set {x : Code} {A : VP} (t : Nat) (B : VP) (hl : look E t = some A) (hs : SubL L A B) (h : JCI P r n c N x ((t, B) :: E) L Q) : JCI P r n c N x E L Q := fun φ a w st =>
  h φ a w (st.tell (hs φ _ st.mem.mem.facts (st.env t A hl)))
theorem JCI_less {x : Code} {E' : Env} {L' : List Item} (hE : ESub L E E') (hL : SubP L' L) (h : JCI P r n c N x E' L' Q) : JCI P r n c N x E L Q := fun φ a w st => h φ a w (st.lessP hE hL)
theorem JCI_buf0 {α : Type} {x : Code} (e : TypeId) (T : Ty α) (h : JCI P r n c N x E (buf (.slice none 0 0) e T [] :: L) Q) : JCI P r n c N x E L Q := fun φ a w st =>
  h φ a w ⟨st.defers, st.size, st.env, st.mem.buf0 e T⟩
theorem JCI_freeze {α : Type} {T : Ty α} {xs : List α} {x : Code} {v : Value} {e : TypeId} {L' : List Item} {p0 : Prop} (hX : c.X = [] ∧ p0) (hr : Repl L (buf v e T xs) (fact v (IsSl T xs)) L') (h : JCI P r n c N x E L' Q) : JCI P r n c N x E L Q := fun φ a w st =>
  let ⟨φ', h1, h2⟩ := st.mem.freeze hX hr
  h φ' a w ⟨st.defers, st.size, fun t B hB => B.mono h1 (st.env t B hB), h2⟩
/-! ### A round -/
def busy (rec : Loop) : Loop := { rec with state := .busy }
theorem JQ_begin {l : Nat} {rec : Loop} {R : Ending → World → Prop} {body : Code} {L1 : List Item} {F' : Exit → Act → World → Prop} (hr : rec.state = .ready) (hL : Repl L (loopI l rec) (loopI l (busy rec)) L1) (h : JCI P (some l) n c N body E L1 (roundPost P l R)) :
    JQ c N E L (Exit.then (fun a₁ w₁ => ∃ w₂, (Instr.beginRound l).run P w₁ = .ok () w₂ ∧ body.wpIn (WF (some l)) n P (roundPost P l R) a₁ w₂) F') .normal := by
  intro φ a w st
  obtain ⟨h1, h2⟩ := st.mem.putLoop hL
  exact ⟨_, run_beginRound h1 hr, h φ a _ ⟨st.defers, st.size, st.env, h2⟩⟩
theorem JQ_endRound {l : Nat} {rec : Loop} {L1 : List Item} {ι : Type} {L' : ι → List Item} (hr : rec.state = .ready) (hp : rec.pending = none) (hL : Repl L (loopI l (busy rec)) (loopI l rec) L1) (i : ι) (hs : SubP (L' i) L1) :
    JQ c N E L (roundPost P l fun e w' => ∃ i φ', e = .returned (.bool true) ∧ HP c φ' (L' i) w') .normal := by
  intro φ a w st
  obtain ⟨h1, h2⟩ := st.mem.putLoop hL
  have h3 := run_endRound (P := P) none h1
  have e : ({ busy rec with state := if (none : Option Code).isNone then .ready else .done, pending := none } : Loop) = rec := by
    cases rec
    simp only [busy] at *
    simp [hr, hp]
  rw [e] at h3
  exact ⟨_, _, h3, i, φ, rfl, h2.lessP hs⟩
/-- A round out of the walks of its assignment and its body. -/
theorem roundIn_J {l : Nat} {rec : Loop} {p : Tmp} {B : VP} {L : List Item} {ι : Type} {L' : ι → List Item} {φ0 : Fz} (hE : ∀ t D, look E t = some D → D.ok φ0 (rec.tmps.getD t undef)) (hN : rec.tmps.size = N) (hp : Nat.blt p N = true) {φ : Fz} {w : World} {v : Value} (hle : Fle φ0 φ) (hm : Mem φ L w) (hv : B.ok φ v)
    (h : JCI P (some l) n ⟨w, φ, names L, []⟩ N rec.assign ((p, B) :: E) L (Exit.then (fun a₁ w₁ => ∃ w₂, (Instr.beginRound l).run P w₁ = .ok () w₂ ∧ rec.body.wpIn (WF (some l)) n P (roundPost P l fun e w' => ∃ i φ', e = .returned (.bool true) ∧ HP ⟨w, φ, names L, []⟩ φ' (L' i) w') a₁ w₂) (fun _ _ _ => False))) :
    RoundIn (WF none) n P l rec.fn (rec.tmps.setIfInBounds p v) rec.assign rec.body w fun e w' => ∃ i φ', e = .returned (.bool true) ∧ HP ⟨w, φ, names L, []⟩ φ' (L' i) w' := by
  refine roundIn_of_wpIn trivial (h φ _ w ⟨rfl, ?_, fun t D hD => ?_, HP.start hm⟩)
  · simpa using hN
  · simp only [look] at hD
    by_cases hpt : p = t
    · subst hpt
      have : Nat.beq p p = true := by simp
      rw [this] at hD
      simp only [cond_true, Option.some.injEq] at hD
      subst hD
      have hlt : p < rec.tmps.size := by rw [hN]; exact Nat.le_of_ble_eq_true hp
      simp [hlt]; exact hv
    · rw [beq_ff hpt] at hD
      have h1 := hE t D (by simpa using hD)
      have : (rec.tmps.setIfInBounds p v).getD t undef = rec.tmps.getD t undef := by
        rw [Array.getD_eq_getD_getElem?, Array.getD_eq_getD_getElem?, Array.getElem?_setIfInBounds_ne hpt]
      show D.ok φ ((rec.tmps.setIfInBounds p v).getD t undef)
      rw [this]
      exact D.mono hle h1
/-- The statement. -/
theorem JCI_range {g p : Tmp} {assign body : Code} {gf : FuncId} {Cs : List VP} {ι : Type} {L' : ι → List Item} (hds : c.ds = []) (hg : look E g = some (IsFn gf Cs)) (hc : ∀ (args : Array Value) (w : World), (callFunc gf args).run P w = .ok (.enter gf args) w)
    (h : ∀ (fn : FuncId) (φ : Fz) (tmps : Array Value) (l d : Nat) (rec : Loop) (W1 : World) (cs : List Value), (∀ t D, look E t = some D → D.ok φ (tmps.getD t undef)) → tmps.size = N → rec = { state := .ready, pending := none, fn := fn, tmps := tmps, params := #[p], assign, body, defers := d } →
      Mem φ (loopI l rec :: defI d :: L) W1 → Alls φ Cs cs → CallsIn (WF none) (n - 1) P gf (#[.func (.yield l) #[] #[]] ++ cs.toArray) W1 fun e w' => ∃ v i φ', e = .returned v ∧ HP ⟨W1, φ, names (loopI l rec :: defI d :: L), []⟩ φ' (loopI l rec :: defI d :: L' i) w')
    (hrest : ∀ d i, JQ { c with ds := [{ target := .collected d, args := #[] }] } N E (defI d :: L' i) Q .normal) : JCI P none n c N (Code.rangeFunc (.tmp g) #[p] assign body) E L Q := by
  intro φ a w st
  refine wpIn_rangeFunc ?_
  intro fn hfn
  obtain ⟨cs, h1, h2⟩ := st.env g _ hg
  have h1' : a.eval (.tmp g) = .func (.func gf) #[] cs.toArray := h1
  obtain ⟨rec, hrec⟩ : ∃ rec : Loop, rec = { state := .ready, pending := none, fn, tmps := a.tmps, params := #[p], assign, body, defers := w.heap.size } := ⟨_, rfl⟩
  obtain ⟨W1, hW1⟩ : ∃ W1, (w.alloc (.deferred (some []))).alloc (.loop rec) = W1 := ⟨_, rfl⟩
  have hm1 : HP c φ (defI w.heap.size :: L) (w.alloc (.deferred (some []))) := st.mem.new (hp_new (b := 0) (it := defI w.heap.size) (o := .deferred (some [])) st.mem rfl rfl)
  have hm2 : HP c φ (loopI (w.heap.size + 1) rec :: defI w.heap.size :: L) W1 := by
    rw [← hW1]
    exact hm1.new (hp_new (b := 0) (it := loopI (w.heap.size + 1) rec) (o := .loop rec) hm1 (by simp [loopI, World.size_alloc]) rfl)
  refine ⟨w.heap.size + 1, [{ target := .collected w.heap.size, args := #[] }], W1, { target := .fn (.func gf) cs.toArray, args := #[.func (.yield (w.heap.size + 1)) #[] #[]] }, W1, gf,
    #[.func (.yield (w.heap.size + 1)) #[] #[]] ++ cs.toArray, W1, ?_, ?_, ?_, ?_, WF.deep, ?_⟩
  · rw [← hW1, hrec]; exact run_enterLoop_outer _ _ _ _ _
  · simp only [resolve, h1']
    simp [go_sem]
  · intro f' hf'; trivial
  · simp [invoke, go_sem, hc]
  · refine (h fn φ a.tmps (w.heap.size + 1) w.heap.size rec W1 cs st.env st.size hrec hm2.mem h2).mono ?_
    rintro e w' ⟨v, i, φ', rfl, h3⟩
    have h4 : HP c φ' ((loopI (w.heap.size + 1) rec :: defI w.heap.size :: L' i) ++ []) w' := HP.call (L := loopI (w.heap.size + 1) rec :: defI w.heap.size :: L) (by simpa using hm2) h3
    rw [List.append_nil] at h4
    obtain ⟨h5, h6⟩ := h4.putLoop (rec' := { rec with state := .exhausted }) (Repl.head _ _ _)
    have h7 := run_endLoop (P := P) h5 (by rw [hrec]; simp)
    have hpd : rec.pending = none := by rw [hrec]
    have h7' : (Instr.endLoop (w.heap.size + 1)).run P w' = .ok none (w'.putObj (w.heap.size + 1) (.loop { rec with state := .exhausted })) := by rw [h7, hpd]
    refine ⟨none, _, h7', ?_⟩
    refine hrest w.heap.size i φ' _ _ ⟨?_, st.size, fun t D hD => D.mono (h3.fle hm2.mem.base) (st.env t D hD), ?_⟩
    · show [_] ++ a.defers = _
      rw [st.defers, hds]; rfl
    · have h8 := h6.less (List.sublist_cons_self _ _)
      exact ⟨h8.mem, h8.kept, h8.mine, h8.old⟩
end
end Go.Proofs.Ytpfojangcgffkaa

/- Contracts whose results lie in new memory; lending to them. Own work. -/
namespace Go.Proofs.Ytpfojangcgffkaa
open Go.RowKit
set_option linter.unusedVariables false
set_option linter.unusedSimpArgs false
/-- What is known to stay from block B on. -/
def fresh (B : Nat) (φ : Fz) : Fz := fun b i => if B ≤ b then φ b i else none
theorem fresh_le (B : Nat) (φ : Fz) : Fle (fresh B φ) φ := fun b i v e => by
  unfold fresh at e
  split at e
  · exact e
  · cases e
theorem fresh_mono {B : Nat} {φ φ' : Fz} (h : Fle φ φ') : Fle (fresh B φ) (fresh B φ') := fun b i v e => by
  unfold fresh at e ⊢
  split at e
  · rename_i hb; rw [if_pos hb]; exact h _ _ _ e
  · cases e
theorem fresh_low {B B' : Nat} {φ : Fz} (h : B' ≤ B) : Fle (fresh B φ) (fresh B' φ) := fun b i v e => by
  unfold fresh at e ⊢
  split at e
  · rename_i hb; rw [if_pos (Nat.le_trans h hb)]; exact e
  · cases e
def FreshV (B : Nat) (A : VP) : VP := ⟨fun φ v => A.ok (fresh B φ) v, fun h k => A.mono (fresh_mono h) k⟩
theorem SubL.fresh {L : List Item} {B : Nat} {A : VP} : SubL L (FreshV B A) A := fun φ v _ h => A.mono (fresh_le B φ) h
/-- A result that names only memory from block B on. -/
def FreshR (R : Nat → VP) : Prop := ∀ B B' φ φ' v, B' ≤ B → Fle (fresh B φ) (fresh B' φ') → (R B).ok φ v → (R B').ok φ' v
theorem freshR_pure {A : VP} (h : PureV A) : FreshR fun _ => A := fun _ _ _ _ _ _ _ k => h _ _ _ k
theorem freshR_v {A : VP} : FreshR fun B => FreshV B A := fun B B' φ φ' v hB h k => A.mono h k
def FreshRs : List (Nat → VP) → Prop
  | [] => True
  | R :: Rs => FreshR R ∧ FreshRs Rs
theorem FreshRs.alls {B B' : Nat} {φ φ' : Fz} (hB : B' ≤ B) (h : Fle (fresh B φ) (fresh B' φ')) : ∀ {Rs : List (Nat → VP)} {vs : List Value}, FreshRs Rs → Alls φ (Rs.map fun R => R B) vs → Alls φ' (Rs.map fun R => R B') vs
  | [], [], _, _ => trivial
  | R :: Rs, v :: vs, ⟨h1, h2⟩, ⟨h3, h4⟩ => ⟨h1 _ _ _ _ _ hB h h3, FreshRs.alls hB h h2 h4⟩
theorem freshR_tup (Rs : List (Nat → VP)) (h : FreshRs Rs) : FreshR fun B => IsTup (Rs.map fun R => R B) := fun B B' φ φ' v hB hl ⟨vs, e, k⟩ => ⟨vs, e, h.alls hB hl k⟩
theorem freshR_agg (Rs : List (Nat → VP)) (h : FreshRs Rs) : FreshR fun B => IsAgg (Rs.map fun R => R B) := fun B B' φ φ' v hB hl ⟨vs, e, k, o⟩ => ⟨vs, e, h.alls hB hl k, o⟩
section
variable {P : Program} {c : Ctx} {A : Nat → Option VP} {L : List Item} {d : Option Tmp} {ty : TypeId} {pos : String} {af : Array Edge} {g : Option (Nat × Bool)}
/-- The contract. -/
def FnF (P : Program) (f : FuncId) (As : List VP) (R : Nat → VP) : Prop :=
  ∀ φ w vs, Alls φ As vs → Mem φ [] w → Calls P f vs.toArray w fun e w' => ∃ v φ', e = .returned v ∧ (R w.heap.size).ok φ' v ∧ HP ⟨w, φ, [], []⟩ φ' [] w'
theorem FnF.toP {f : FuncId} {As : List VP} {R : Nat → VP} {R' : VP} (h : FnF P f As R) (hs : ∀ B φ v, (R B).ok φ v → R'.ok φ v) : FnP P f As R' := fun φ w vs ha hm =>
  (h φ w vs ha hm).mono fun e w' ⟨v, φ', h1, h2, h3⟩ => ⟨(), v, φ', h1, hs _ _ _ h2, by simpa [names] using h3⟩
/-- Own memory that comes back stays. -/
theorem Fn.toF {α : Type} {T : Ty α} {xs : List α} {n : Nat} {e : TypeId} {f : FuncId} {As : List VP} {R : Nat → VP} {R0 : Option Addr × Nat → VP} (h : Fn P f As [] R0 (fun i : Option Addr × Nat => [buf (slV n i) e T xs])) (hT : ∀ x, PureVs (T.cells x))
    (hR : ∀ i B φ v, (FreshV B (IsSl T xs)).ok φ (slV n i) → (R0 i).ok φ v → (R B).ok φ v) : FnF P f As R := fun φ w vs ha hm => by
  refine (h φ w vs ha hm).mono ?_
  rintro e' w' ⟨i, v, φ', h1, h2, h3⟩
  have h3' : HP ⟨w, φ, [], []⟩ φ' [buf (slV n i) e T xs] w' := by simpa [names] using h3
  have hit := h3'.mem.items _ (List.mem_cons_self ..)
  obtain ⟨flat, f1, f2, f3⟩ := buf_owns hit
  have alls_pure : ∀ (ys : List α) (us : List Value) (ψ ψ' : Fz), Alls ψ (ys.flatMap T.cells) us → Alls ψ' (ys.flatMap T.cells) us := fun ys => by
    induction ys with
    | nil =>
      intro us ψ ψ' hh
      match us, hh with
      | [], _ => trivial
    | cons y ys ih =>
      intro us ψ ψ' hh
      rw [List.flatMap_cons] at hh ⊢
      have hl : (T.cells y).length = T.size := T.len y
      have hlen := hh.len
      have e1 := hh.take T.size
      have e2 := hh.drop T.size
      rw [← hl, List.take_left] at e1
      rw [← hl, List.drop_left] at e2
      have e3 := (hT y).alls (φ' := ψ') e1
      have e4 := ih _ ψ ψ' e2
      have := e3.append e4
      rwa [List.take_append_drop] at this
  rcases f3.2 with ⟨h0, hn⟩ | ⟨gg, cap, cur, h0, _, e1, e2, e3, e4, e5⟩
  · have hxs : xs = [] := List.eq_nil_of_length_eq_zero hn
    refine ⟨v, φ', h1, hR i _ φ' v ?_ h2, h3'.lessP (SubP.nil _)⟩
    subst hxs
    rw [h0]
    exact ⟨none, 0, 0, rfl, rfl, Nat.le_refl _, Nat.zero_le _, .inl rfl⟩
  · obtain ⟨φ2, k1, k2⟩ := h3'.freeze (p0 := True) ⟨rfl, trivial⟩ (Repl.head _ (fact (slV n i) (IsSl T xs)) _)
    have hgg : w.heap.size ≤ gg := by
      have := h3'.mine gg (mem_names.2 ⟨_, List.mem_cons_self .., by show (slV n i).ownBlock = some gg; rw [h0]; rfl⟩)
      exact this.resolve_right (by simp)
    have hk3 := k2.mem.items _ (List.mem_cons_self ..)
    obtain ⟨a, m, cp, q1, q2, q3, q4, q5⟩ : (IsSl T xs).ok φ2 (slV n i) := hk3.1
    refine ⟨v, φ2, h1, hR i _ φ2 v ?_ ((R0 i).mono k1 h2), k2.lessP (SubP.nil _)⟩
    refine ⟨a, m, cp, q1, q2, q3, q4, ?_⟩
    rcases q5 with q5 | ⟨b, o, q5, q6⟩
    · exact .inl q5
    · have hb : b = gg := by
        rw [h0, q5] at q1
        injection q1 with q1 _ _
        injection q1 with q1
        injection q1 with q1 _ _
        exact q1.symm
      refine .inr ⟨b, o, q5, fun k x hx j B hB => ?_⟩
      obtain ⟨u, r1, r2, r3⟩ := q6 k x hx j B hB
      refine ⟨u, ?_, ?_, r3⟩
      · unfold fresh; rw [if_pos (by rw [hb]; exact hgg)]; exact r1
      · have hp : ∀ (Bs : List VP) (j : Nat) (D : VP), PureVs Bs → Bs[j]? = some D → PureV D := fun Bs => by
          induction Bs with
          | nil => intro j D _ hj; simp at hj
          | cons E Es ih =>
            intro j D ⟨p1, p2⟩ hj
            cases j with
            | zero => simp at hj; subst hj; exact p1
            | succ j => exact ih j D p2 (by simpa using hj)
        exact hp _ _ _ (hT x) hB _ _ _ r2
/-- A call that hands back new memory, own memory being lent to it. -/
theorem op_callBF {f : FuncId} {xs : List Operand} {ts : Array TypeId} {As : List VP} {R : Nat → VP} {L' : List Item} (hL : LendL L L') (hc : ∀ (args : Array Value) (w : World), (callFunc f args).run P w = .ok (.enter f args) w)
    (hF : FnF P f As R) (ha : ArgsE A L' xs As) (hR : FreshR R) : OpP P c ⟨d, .call { callee := .value (.func f), args := xs.toArray, argTypes := ts }, ty, pos, af, g⟩ A L (R c.w.heap.size) := by
  intro φ a w K Q hm he hk
  obtain ⟨φ1, hle, hm1⟩ := hL.mem [] φ w hm.mem
  rw [List.nil_append] at hm1
  have hv := ha.alls (φ := φ1) (a := a) fun x hx B hB => by
    obtain ⟨D, h1, h2⟩ := hB
    exact h2 φ1 _ hm1.facts (D.mono hle (he x (by simp [Op.operands, Call.operands, hx]) D (.rfl' h1)))
  unfold Oper.wp
  rw [run_enter hc]
  refine (hF φ1 w _ hv ⟨hm1.base, by simp, List.Pairwise.nil⟩).mono ?_
  rintro e w' ⟨v, φ', rfl, h1, h2⟩
  refine hk (fun b i => if b < w.heap.size then φ b i else φ' b i) v w' ⟨⟨fun b i u hu => ?_, by simp, List.Pairwise.nil⟩, h2.kept, by simp [names], fun b i hb => if_pos hb⟩ (hR _ _ _ _ _ hm.kept.size (fun b i u hu => ?_) h1)
  · split at hu
    · rename_i hb
      exact h2.mem.base b i u (by rw [h2.old b i hb]; exact hle _ _ _ hu)
    · exact h2.mem.base b i u hu
  · unfold fresh at hu ⊢
    split at hu
    · rename_i hb
      rw [if_pos (Nat.le_trans hm.kept.size hb)]
      show (if b < w.heap.size then φ b i else φ' b i) = some u
      rw [if_neg (by omega)]
      exact hu
    · cases hu
/-- A call that hands back own memory. -/
theorem JQ_buf0 {α : Type} {Q : Exit → Act → World → Prop} {N : Nat} {E : Env} {ex : Exit} (e : TypeId) (T : Ty α) (h : JQ c N E (buf (.slice none 0 0) e T [] :: L) Q ex) : JQ c N E L Q ex := fun φ a w st =>
  h φ a w ⟨st.defers, st.size, st.env, st.mem.buf0 e T⟩
/-- What lies in memory, told by less. -/
theorem JQ_blkSub {Q : Exit → Act → World → Prop} {N : Nat} {E : Env} {b : Nat} {t : TypeId} {As As' : List VP} {L' : List Item} {ex : Exit} (hr : Repl L (blk b t As) (blk b t As') L') (h : SubLs L As As') (k : JQ c N E L' Q ex) : JQ c N E L Q ex := fun φ a w st => by
  refine k φ a w ⟨st.defers, st.size, st.env, st.mem.upd hr (Kpt.refl _ _) ?_ fun b' hb' => .inr hb'⟩
  obtain ⟨⟨vs, h1, h2, h3⟩, h4⟩ := st.mem.mem.items _ hr.mem
  exact ⟨⟨vs, h1, h.alls st.mem.mem.facts h2, h3⟩, h4⟩
theorem JC_blkSub {Q : Exit → Act → World → Prop} {N : Nat} {E : Env} {b : Nat} {t : TypeId} {As As' : List VP} {L' : List Item} {x : Code} (hr : Repl L (blk b t As) (blk b t As') L') (h : SubLs L As As') (k : JC P c N x E L' Q) : JC P c N x E L Q := fun φ a w st => by
  refine k φ a w ⟨st.defers, st.size, st.env, st.mem.upd hr (Kpt.refl _ _) ?_ fun b' hb' => .inr hb'⟩
  obtain ⟨⟨vs, h1, h2, h3⟩, h4⟩ := st.mem.mem.items _ hr.mem
  exact ⟨⟨vs, h1, h.alls st.mem.mem.facts h2, h3⟩, h4⟩
end
end Go.Proofs.Ytpfojangcgffkaa

/- Short names for the tactics that every walk uses. Own work. -/
namespace Go.Proofs.Ytpfojangcgffkaa
open Go.RowKit
set_option linter.unusedVariables false
set_option linter.unusedSimpArgs false
theorem subT {L : List Item} {A B : VP} (h : SubL L A B := by (repeat' (first | exact SubL.rfl' | exact SubL.nil | exact SubL.top | exact SubL.fresh | exact trivial | refine SubL.agg ?_ | refine SubL.tup ?_ | exact SubL.fact (by repeat (first | exact List.Mem.head _ | apply List.Mem.tail)) | refine SubL.row (by rfl) (by rfl) ?_ | refine SubL.lit rfl ?_ | refine SubL.iteT (by first | assumption | (simp; done) | (simp; omega) | (simp_all; done)) ?_ | exact SubL.eq (congrArg Is (u64lit (by first | decide | omega))) | exact SubL.eq (congrArg Is (u32lit (by first | decide | omega))) | refine ⟨?_, ?_⟩))) : SubL L A B := h
theorem subsT {L : List Item} {A B : List VP} (h : SubLs L A B := by (repeat' (first | exact SubL.rfl' | exact SubL.nil | exact SubL.top | exact SubL.fresh | exact trivial | refine SubL.agg ?_ | refine SubL.tup ?_ | exact SubL.fact (by repeat (first | exact List.Mem.head _ | apply List.Mem.tail)) | refine SubL.row (by rfl) (by rfl) ?_ | refine SubL.lit rfl ?_ | refine SubL.iteT (by first | assumption | (simp; done) | (simp; omega) | (simp_all; done)) ?_ | exact SubL.eq (congrArg Is (u64lit (by first | decide | omega))) | exact SubL.eq (congrArg Is (u32lit (by first | decide | omega))) | refine ⟨?_, ?_⟩))) : SubLs L A B := h
theorem subzT {L : List Item} {A B : List VP} (h : SubLs L A B := by (repeat' (first | exact SubL.rfl' | exact trivial | exact SubL.eq (congrArg Is (u64lit (by first | decide | omega))) | exact SubL.eq (congrArg Is (u32lit (by first | decide | omega))) | refine ⟨?_, ?_⟩))) : SubLs L A B := h
theorem evS {A : Nat → Option VP} {L : List Item} {x : Operand} {B : VP} (h : Ev A L x B := by (first | exact Ev.rfl' rfl | exact Ev.sub rfl (by (repeat' (first | exact SubL.rfl' | exact SubL.nil | exact SubL.top | exact SubL.fresh | exact trivial | refine SubL.agg ?_ | refine SubL.tup ?_ | exact SubL.fact (by repeat (first | exact List.Mem.head _ | apply List.Mem.tail)) | refine SubL.row (by rfl) (by rfl) ?_ | refine SubL.lit rfl ?_ | refine SubL.iteT (by first | assumption | (simp; done) | (simp; omega) | (simp_all; done)) ?_ | exact SubL.eq (congrArg Is (u64lit (by first | decide | omega))) | exact SubL.eq (congrArg Is (u32lit (by first | decide | omega))) | refine ⟨?_, ?_⟩))))) : Ev A L x B := h
theorem evG {A : Nat → Option VP} {L : List Item} {x : Operand} {B : VP} (h : Ev A L x B := by (first | exact Ev.rfl' rfl | exact Ev.sub rfl (SubL.iteT (by first | assumption | (simp; done) | (simp; omega) | (simp_all; done)) SubL.rfl'))) : Ev A L x B := h
theorem evG2 {A : Nat → Option VP} {L : List Item} {x : Operand} {B : VP} (h : Ev A L x B := by (first | exact Ev.sub rfl (SubL.iteT (by first | assumption | (simp; done) | (simp; omega) | (simp_all; done)) SubL.rfl') | exact Ev.rfl' rfl)) : Ev A L x B := h
theorem ev64 {A : Nat → Option VP} {L : List Item} {x : Operand} {B : VP} (h : Ev A L x B := by (first | exact Ev.rfl' rfl | exact Ev.sub rfl (SubL.eq (congrArg Is (u64lit (by first | decide | omega)))))) : Ev A L x B := h
theorem ev32 {A : Nat → Option VP} {L : List Item} {x : Operand} {B : VP} (h : Ev A L x B := by (first | exact Ev.rfl' rfl | exact Ev.sub rfl (SubL.eq (congrArg Is (u32lit (by first | decide | omega)))))) : Ev A L x B := h
theorem ev64g {A : Nat → Option VP} {L : List Item} {x : Operand} {B : VP} (h : Ev A L x B := by (first | exact Ev.rfl' rfl | exact Ev.sub rfl (SubL.iteT (by first | assumption | (simp; done) | (simp; omega) | (simp_all; done)) SubL.rfl') | exact Ev.sub rfl (SubL.eq (congrArg Is (u64lit (by first | decide | omega)))) | exact Ev.sub rfl (SubL.iteT (by first | assumption | (simp; done) | (simp; omega) | (simp_all; done)) (SubL.eq (congrArg Is (u64lit (by first | decide | omega))))))) : Ev A L x B := h
theorem ev32g {A : Nat → Option VP} {L : List Item} {x : Operand} {B : VP} (h : Ev A L x B := by (first | exact Ev.rfl' rfl | exact Ev.sub rfl (SubL.iteT (by first | assumption | (simp; done) | (simp; omega) | (simp_all; done)) SubL.rfl') | exact Ev.sub rfl (SubL.eq (congrArg Is (u32lit (by first | decide | omega)))) | exact Ev.sub rfl (SubL.iteT (by first | assumption | (simp; done) | (simp; omega) | (simp_all; done)) (SubL.eq (congrArg Is (u32lit (by first | decide | omega))))))) : Ev A L x B := h
theorem memT {a : Item} {l : List Item} (h : a ∈ l := by (repeat (first | exact List.Mem.head _ | apply List.Mem.tail))) : a ∈ l := h
theorem replT {L L' : List Item} {a b : Item} (h : Repl L a b L' := by (repeat (first | exact Repl.head _ _ _ | apply Repl.tail))) : Repl L a b L' := h
theorem cellsT {A : VP} {As : List VP} (h : CellsOf A As := by (first | exact cells_agg | exact cells_is rfl | exact cells_sl | exact cells_ref | exact cells_lit rfl)) : CellsOf A As := h
theorem wrapT {k : IntKind} {n r : Int} (h : k.wrap n = r := by (first | exact wI64 (by omega) | exact wU64 (by omega) | exact wU32 (by omega) | rfl)) : k.wrap n = r := h
theorem convT {k : IntKind} {n r : Int} (h : k.wrap n = r := by (first | with_reducible exact to_u64_64 _ | with_reducible exact to_u32_32 _ | with_reducible exact to_u8_8 _ | with_reducible exact to_u64_8 _ | with_reducible exact to_u64_32 _ | with_reducible exact to_u8_64 _ | with_reducible exact to_u32_64 _ | with_reducible exact to_i64_8 _ | with_reducible exact to_i64_32 _ | exact wI64 (by first | omega | assumption) | exact wU64 (by omega) | exact wU32 (by omega) | with_reducible exact to_i64_64 _ | with_reducible exact to_u64_int _ | with_reducible exact to_u32_int _ | with_reducible exact to_u8_int _ | rfl)) : k.wrap n = r := h
theorem lendT {L L' : List Item} (h : LendL L L' := by (repeat (first | with_reducible exact LendL.nil | with_reducible apply LendL.buf | with_reducible apply LendL.blk | with_reducible apply LendL.keep))) : LendL L L' := h
theorem pureT {R : VP} (h : PureV R := by (repeat (first | with_reducible exact pure_is | exact trivial | with_reducible refine pure_tup ?_ | with_reducible refine pure_agg ?_ | (with_reducible refine pure_ex (fun _ => ?_)) | refine ⟨?_, ?_⟩))) : PureV R := h
theorem esubT {L : List Item} {E E' : Env} (h : ESub L E E' := by ((repeat (refine ⟨⟨_, rfl, (by (repeat' (first | exact SubL.rfl' | exact SubL.nil | exact SubL.top | exact SubL.fresh | exact trivial | refine SubL.agg ?_ | refine SubL.tup ?_ | exact SubL.fact (by repeat (first | exact List.Mem.head _ | apply List.Mem.tail)) | refine SubL.row (by rfl) (by rfl) ?_ | refine SubL.lit rfl ?_ | refine SubL.iteT (by first | assumption | (simp; done) | (simp; omega) | (simp_all; done)) ?_ | exact SubL.eq (congrArg Is (u64lit (by first | decide | omega))) | exact SubL.eq (congrArg Is (u32lit (by first | decide | omega))) | refine ⟨?_, ?_⟩)))⟩, ?_⟩)); exact trivial)) : ESub L E E' := h
theorem lessT {L M : List Item} (h : SubP M L := by (repeat (first | exact SubP.nil _ | refine SubP.cons (by repeat (first | exact Drop1.here _ _ | apply Drop1.next)) ?_))) : SubP M L := h
theorem lenT {p : Prop} (h : p := by (first | omega | (simp; done) | (simp; omega))) : p := h
theorem idxT {p : Prop} (h : p := by (first | rfl | assumption | omega)) : p := h
end Go.Proofs.Ytpfojangcgffkaa

/- Words for memory: a slice that reads as a list of cells; what stays. Own work. -/
namespace Go.Proofs.Ytpfojangcgffkaa
open Go.RowKit
set_option linter.unusedVariables false
set_option linter.unusedSimpArgs false

/-- The slice value v of n elements of s cells each reads as the cells xs. -/
def SlN (w : World) (v : Value) (s n : Nat) (xs : List Value) : Prop :=
  xs.length = n * s ∧ ((∃ a c, v = .slice a 0 c ∧ n = 0) ∨
    ∃ b o c, v = .slice (some ⟨b, o, none⟩) n c ∧ n ≤ c ∧ c ≤ maxLen ∧ b < w.heap.size ∧ ∀ i u, xs[i]? = some u → w.cell? ⟨b, o + i, none⟩ = some u)
/-- Elements of one cell. -/
def Sl (w : World) (v : Value) (xs : List Value) : Prop := SlN w v 1 xs.length xs
theorem SlN.below {w w' : World} {v : Value} {s n : Nat} {xs : List Value} (h : SlN w v s n xs) {B : Nat} (hb : Below B w w') (hB : w.heap.size ≤ B) : SlN w' v s n xs := by
  obtain ⟨h1, h2⟩ := h
  refine ⟨h1, ?_⟩
  rcases h2 with h2 | ⟨b, o, c, e1, e2, e3, e4, e5⟩
  · exact .inl h2
  · refine .inr ⟨b, o, c, e1, e2, e3, Nat.lt_of_lt_of_le e4 hb.size, fun i u hu => ?_⟩
    rw [hb.cell (p := ⟨b, o + i, none⟩) (by show b < B; omega)]
    exact e5 i u hu
theorem Sl.below {w w' : World} {v : Value} {xs : List Value} (h : Sl w v xs) (hb : Below w.heap.size w w') : Sl w' v xs := SlN.below h hb (Nat.le_refl _)
theorem Sl.cases {w : World} {v : Value} {xs : List Value} (h : Sl w v xs) :
    (∃ a c, v = .slice a 0 c ∧ xs = []) ∨ ∃ b o c, v = .slice (some ⟨b, o, none⟩) xs.length c ∧ xs.length ≤ c ∧ c ≤ maxLen ∧ b < w.heap.size ∧ ∀ i u, xs[i]? = some u → w.cell? ⟨b, o + i, none⟩ = some u := by
  rcases h.2 with ⟨a, c, e1, e2⟩ | h2
  · exact .inl ⟨a, c, e1, List.eq_nil_of_length_eq_zero e2⟩
  · exact .inr h2
theorem Sl.form1 {α : Type} {f : α → Value} {w : World} {v : Value} {xs : List α} (h : Sl w v (xs.map f)) : ∃ a c, v = .slice a xs.length c := by
  rcases h.cases with ⟨a', c', e, e2⟩ | ⟨b, o, c', e, _⟩
  · have : xs = [] := by simpa using e2
    exact ⟨a', c', by rw [e, this]; rfl⟩
  · exact ⟨_, c', by rw [e, List.length_map]⟩
theorem Sl.nil (w : World) : Sl w (.slice none 0 0) [] := ⟨rfl, .inl ⟨_, _, rfl, rfl⟩⟩
/-- What a world that is as another one below a block's number keeps, as the walk asks for it. -/
theorem bcell {W w1 : World} (hb : Below W.heap.size W w1) : (∀ b o, b < W.heap.size → w1.cell? ⟨b, o, none⟩ = W.cell? ⟨b, o, none⟩) ∧ (∀ b o, b < W.heap.size → w1.frozen? ⟨b, o, none⟩ = W.frozen? ⟨b, o, none⟩) :=
  ⟨fun b o h => hb.cell (p := ⟨b, o, none⟩) h, fun b o h => hb.frozen (p := ⟨b, o, none⟩) h⟩
/-- Block b is just the cells cs. -/
def Blk (w : World) (b : Nat) (t : TypeId) (cs : Array Value) : Prop := w.heap[b]? = some (.cells cs t (0, 0))
theorem Blk.lt {w : World} {b : Nat} {t : TypeId} {cs : Array Value} (h : Blk w b t cs) : b < w.heap.size := by
  rcases Nat.lt_or_ge b w.heap.size with hl | hl
  · exact hl
  · unfold Blk at h; rw [Array.getElem?_eq_none hl] at h; cases h
theorem Blk.cell {w : World} {b : Nat} {t : TypeId} {cs : Array Value} (h : Blk w b t cs) (i : Nat) : w.cell? ⟨b, i, none⟩ = cs[i]? := cell_of_row w b i cs t (0, 0) h
theorem Blk.frozen {w : World} {b : Nat} {t : TypeId} {cs : Array Value} (h : Blk w b t cs) (i : Nat) : w.frozen? ⟨b, i, none⟩ = false := frozen_of_row w b i cs t h
theorem Blk.setSame {w : World} {b : Nat} {t : TypeId} {cs : Array Value} (h : Blk w b t cs) (i : Nat) (u : Value) : Blk (w.setCell ⟨b, i, none⟩ u) b t (cs.setIfInBounds i u) := heap_setCell_same w b i cs t u h
theorem Blk.below {w w' : World} {b : Nat} {t : TypeId} {cs : Array Value} (h : Blk w b t cs) {B : Nat} (hb : Below B w w') (hB : b < B) : Blk w' b t cs := (hb.block b hB).trans h
theorem Blk.new (w : World) (t : TypeId) (cs : Array Value) : Blk (w.alloc (.cells cs t)) w.heap.size t cs := heap_alloc_new w _
theorem addr_add (b o k : Nat) : (⟨b, o, none⟩ : Addr).add k = ⟨b, o + k, none⟩ := Addr.add_lit b o k
/-- Where a part of a slice begins (at the very end of the capacity the old address stays). -/
def cutA (a : Option Addr) (cap lo s : Nat) : Option Addr := if cap = lo then a else a.map (·.add (lo * s))
@[go_sem ↓ high] theorem sliced_cutA (a : Option Addr) (l h m s : Nat) : sliced a l h m s = .slice (cutA a m l s) (h - l) (m - l) := rfl
/-- A part of a slice of one-cell elements. -/
theorem Sl.cut {w : World} {a : Option Addr} {n c : Nat} {xs : List Value} (h : Sl w (.slice a n c) xs) {lo hi : Nat} (h1 : lo ≤ hi) (h2 : hi ≤ n) {A : Option Addr} {c' : Nat}
    (hA' : A = cutA a c lo 1) (hc : c' = c - lo) : Sl w (.slice A (hi - lo) c') ((xs.take hi).drop lo) := by
  have hA : A = if c = lo then a else a.map (·.add lo) := by rw [hA']; unfold cutA; simp
  have hn : xs.length = n := by
    rcases h.cases with ⟨a', c'', e, rfl⟩ | ⟨b, o, c'', e, _⟩
    · injection e with _ e2 _; rw [e2]; rfl
    · injection e with _ e2 _; exact e2.symm
  have hl : ((xs.take hi).drop lo).length = hi - lo := by rw [List.length_drop, List.length_take]; omega
  refine ⟨by simp, ?_⟩
  rw [hl]
  by_cases h0 : hi - lo = 0
  · exact .inl ⟨A, c', by rw [h0], h0⟩
  · rcases h.cases with ⟨a', c'', e, rfl⟩ | ⟨b, o, c'', e, e2, e3, e4, e5⟩
    · simp at hn; omega
    · injection e with g1 g2 g3
      subst g1 g3
      rw [if_neg (by omega)] at hA
      subst hA
      refine .inr ⟨b, o + lo, c', by rw [Option.map_some, addr_add], by omega, by omega, e4, fun i u hu => ?_⟩
      rw [Nat.add_assoc]
      apply e5
      rw [List.getElem?_drop] at hu
      have hlt : lo + i < hi := by
        rcases Nat.lt_or_ge (lo + i) hi with g | g
        · exact g
        · rw [List.getElem?_eq_none (by rw [List.length_take]; omega)] at hu; cases hu
      rw [List.getElem?_take_of_lt hlt] at hu
      exact hu
theorem Sl.len {w : World} {a : Option Addr} {n c : Nat} {xs : List Value} (h : Sl w (.slice a n c) xs) : xs.length = n := by
  rcases h.cases with ⟨a', c'', e, rfl⟩ | ⟨b, o, c'', e, _⟩
  · injection e with _ e2 _; rw [e2]; rfl
  · injection e with _ e2 _; exact e2.symm
theorem Sl.cap_le {w : World} {a : Option Addr} {n c : Nat} {xs : List Value} (h : Sl w (.slice a n c) xs) : n ≤ c := by
  rcases h.cases with ⟨a', c'', e, rfl⟩ | ⟨b, o, c'', e, e2, _⟩
  · injection e with _ e2 _; omega
  · injection e with _ e2 e3; omega
@[go_sem high] theorem min_nat {P : Program} {w : World} (ts : Array TypeId) (t : TypeId) (k k' : IntKind) (x y : Nat) : (Builtin.min_ ts t #[.int k (x : Int), .int k' (y : Int)]).run P w = .ok (.int k ((min x y : Nat) : Int)) w := by
  rw [run_min_int2]
  congr 2
  split <;> omega
@[go_sem high] theorem max_nat {P : Program} {w : World} (ts : Array TypeId) (t : TypeId) (k k' : IntKind) (x y : Nat) : (Builtin.max_ ts t #[.int k (x : Int), .int k' (y : Int)]).run P w = .ok (.int k ((max x y : Nat) : Int)) w := by
  rw [run_max_int2]
  congr 2
  split <;> omega
theorem Sl.at_ {w : World} {a : Option Addr} {n c : Nat} {xs : List Value} (h : Sl w (.slice a n c) xs) {k : Nat} (hk : k < n) :
    ∃ b o, a = some ⟨b, o, none⟩ ∧ b < w.heap.size ∧ ∀ u, xs[k]? = some u → w.cell? ⟨b, o + k, none⟩ = some u := by
  rcases h.cases with ⟨a', c'', e, rfl⟩ | ⟨b, o, c'', e, e2, e3, e4, e5⟩
  · injection e with _ e2 _; omega
  · injection e with g1 g2 g3
    exact ⟨b, o, g1, e4, e5 k⟩
theorem Blk.alloc {w : World} {b : Nat} {t : TypeId} {cs : Array Value} (h : Blk w b t cs) (o : Obj) : Blk (w.alloc o) b t cs := (Below.heap_alloc w o b h.lt).trans h
end Go.Proofs.Ytpfojangcgffkaa

/- Members of a view: their cells, their slices, their lists. Own work. -/
namespace Go.Proofs.Ytpfojangcgffkaa
open Go.RowKit
set_option linter.unusedVariables false
set_option linter.unusedSimpArgs false
/-- A member. -/
structure Mb where
  n : Int
  b : Int
  f : Bool
  deriving DecidableEq
def Mb.cells (m : Mb) : List Value := [.int .i64 m.n, .int .i64 m.b, .bool m.f]
def Mb.val (m : Mb) : Value := .agg #[.int .i64 m.n, .int .i64 m.b, .bool m.f]
/-- The member at a place. -/
def Mb.at (ms : List Mb) (k : Nat) : Mb := ms.getD k ⟨0, 0, false⟩
theorem Mb.at_get (ms : List Mb) (k : Nat) (h : k < ms.length) : ms[k]? = some (Mb.at ms k) := by
  unfold Mb.at
  rw [List.getD_eq_getElem?_getD, List.getElem?_eq_getElem h]
  rfl
theorem Mb.at_eq (ms : List Mb) (k : Nat) (h : k < ms.length) : ms[k] = Mb.at ms k := by
  have h1 := Mb.at_get ms k h
  rw [List.getElem?_eq_getElem h] at h1
  exact Option.some.inj h1
theorem Mb.ext_at (xs ys : List Mb) (hl : xs.length = ys.length) (h : ∀ k, k < xs.length → Mb.at xs k = Mb.at ys k) : xs = ys := by
  apply List.ext_getElem hl
  intro i h1 h2
  rw [Mb.at_eq _ _ h1, Mb.at_eq _ _ h2]
  exact h i h1
/-- A slice that reads as members. -/
def SlM (w : World) (v : Value) (ms : List Mb) : Prop := SlN w v 3 ms.length (ms.flatMap Mb.cells)
theorem mcells_get (ms : List Mb) (k j : Nat) (hk : k < ms.length) (hj : j < 3) : (ms.flatMap Mb.cells)[k * 3 + j]? = ((Mb.at ms k).cells)[j]? := by
  induction ms generalizing k with
  | nil => simp at hk
  | cons p ms ih =>
    rw [List.flatMap_cons]
    cases k with
    | zero => rw [List.getElem?_append_left (by simp [Mb.cells]; omega)]; simp [Mb.at]
    | succ k =>
      rw [List.getElem?_append_right (by simp [Mb.cells]; omega)]
      have e : (k + 1) * 3 + j - p.cells.length = k * 3 + j := by simp [Mb.cells]; omega
      rw [e, ih k (by simpa using hk)]
      simp [Mb.at]
/-- The three cells of a member at an address. -/
def MbAt (w : World) (b o : Nat) (m : Mb) : Prop :=
  w.cell? ⟨b, o, none⟩ = some (.int .i64 m.n) ∧ w.cell? ⟨b, o + 1, none⟩ = some (.int .i64 m.b) ∧ w.cell? ⟨b, o + 2, none⟩ = some (.bool m.f)
theorem SlM.len {w : World} {a : Option Addr} {n c : Nat} {ms : List Mb} (h : SlM w (.slice a n c) ms) : ms.length = n := by
  rcases h.2 with ⟨a', c', e, e2⟩ | ⟨b, o, c', e, _⟩
  · injection e with _ e3 _; omega
  · injection e with _ e3 _; exact e3.symm
theorem SlM.form {w : World} {v : Value} {ms : List Mb} (h : SlM w v ms) : ∃ a c, v = .slice a ms.length c := by
  rcases h.2 with ⟨a', c', e, e2⟩ | ⟨b, o, c', e, _⟩
  · exact ⟨a', c', by rw [e, e2]⟩
  · exact ⟨_, c', e⟩
theorem SlM.small {w : World} {v : Value} {ms : List Mb} (h : SlM w v ms) : ms.length ≤ maxLen := by
  rcases h.2 with ⟨a', c', e, e2⟩ | ⟨b, o, c', e, e2, e3, _⟩ <;> omega
theorem SlM.at_ {w : World} {a : Option Addr} {n c : Nat} {ms : List Mb} (h : SlM w (.slice a n c) ms) {k : Nat} (hk : k < n) :
    ∃ b o, a = some ⟨b, o, none⟩ ∧ b < w.heap.size ∧ ∀ j, j < n → MbAt w b (o + j * 3) (Mb.at ms j) := by
  have hl := h.len
  rcases h.2 with ⟨a', c', e, e2⟩ | ⟨b, o, c', e, e2, e3, e4, e5⟩
  · omega
  · injection e with g1 g2 g3
    refine ⟨b, o, g1, e4, fun i hi => ?_⟩
    have g : ∀ j, j < 3 → ∀ u, ((Mb.at ms i).cells)[j]? = some u → w.cell? ⟨b, o + i * 3 + j, none⟩ = some u := fun j hj u hu => by
      rw [Nat.add_assoc]
      exact e5 _ u ((mcells_get ms i j (by omega) hj).trans hu)
    exact ⟨g 0 (by omega) _ rfl, g 1 (by omega) _ rfl, g 2 (by omega) _ rfl⟩
theorem SlM.below {w w' : World} {v : Value} {ms : List Mb} (h : SlM w v ms) (hb : Below w.heap.size w w') : SlM w' v ms := SlN.below h hb (Nat.le_refl _)
theorem SlM.alloc {w : World} {v : Value} {ms : List Mb} (h : SlM w v ms) (o : Obj) : SlM (w.alloc o) v ms := h.below ((Below.refl _ _).alloc (Nat.le_refl _) o)
theorem SlM.drew1 {w : World} {v : Value} {ms : List Mb} (h : SlM w v ms) : SlM w.drew v ms := h
theorem SlM.nil (w : World) : SlM w (.slice none 0 0) [] := ⟨rfl, .inl ⟨_, _, rfl, rfl⟩⟩
theorem MbAt.below {w w' : World} {b o : Nat} {m : Mb} {B : Nat} (h : MbAt w b o m) (hb : Below B w w') (hB : b < B) : MbAt w' b o m := by
  have k : ∀ x, w'.cell? ⟨b, x, none⟩ = w.cell? ⟨b, x, none⟩ := fun x => hb.cell (p := ⟨b, x, none⟩) hB
  unfold MbAt at *
  simp only [k]
  exact h
theorem Below.drewN' {B : Nat} {a w : World} (h : Below B a w) (n : Nat) : Below B a (w.drewN n) := ⟨h.os, h.tape, h.output, h.size, h.block⟩
theorem box_below (w : World) (o : Obj) : Below w.heap.size w (w.alloc o) := (Below.refl _ _).alloc (Nat.le_refl _) _
/-- The value of a view. -/
def viewV (num : Int) (v : Value) : Value := .agg #[.int .i64 num, v]
end Go.Proofs.Ytpfojangcgffkaa

/- Types of the api, as lists of cells. Own work. -/
namespace Go.Proofs.Ytpfojangcgffkaa
open Go.RowKit
def tI64 : Ty Int := ⟨1, fun n => [Is (.int .i64 n)], fun _ => rfl⟩
def tU64 : Ty (BitVec 64) := ⟨1, fun n => [Is (.int .u64 (UV n))], fun _ => rfl⟩
def tMb : Ty Mb := ⟨3, fun m => [Is (.int .i64 m.n), Is (.int .i64 m.b), Is (.bool m.f)], fun _ => rfl⟩
/-- A view: its number, its members. -/
@[reducible] def IsView (n : Int) (ms : List Mb) : VP := IsAgg [Is (.int .i64 n), IsSl tMb ms]
@[reducible] def IsMb (m : Mb) : VP := IsAgg [Is (.int .i64 m.n), Is (.int .i64 m.b), Is (.bool m.f)]
end Go.Proofs.Ytpfojangcgffkaa

/- Pages: their values, their equality. Own work. -/
namespace Go.Proofs.Ytpfojangcgffkaa
open Go.RowKit
set_option linter.unusedVariables false
set_option linter.unusedSimpArgs false
/-- The value of a page. -/
def pageV (l : Int) (h d0 d1 d2 d3 d4 d5 d6 : BitVec 64) : Value :=
  .agg #[.int .i64 l, .int .u64 (UV h), .int .u64 (UV d0), .int .u64 (UV d1), .int .u64 (UV d2), .int .u64 (UV d3), .int .u64 (UV d4), .int .u64 (UV d5), .int .u64 (UV d6)]
theorem u64_one : ∃ i, Try.prog.info? 22 = some i := by
  have h : (Try.prog.info? 22).isSome = true := by kernel_rfl
  exact Option.isSome_iff_exists.1 h
set_option maxHeartbeats 1000000 in
@[go_sem high] theorem eq7 (d : Nat) (w : World) (a0 a1 a2 a3 a4 a5 a6 b0 b1 b2 b3 b4 b5 b6 : BitVec 64) :
    (Op.equalIn (d + 2) 23 (.agg #[.int .u64 (UV a0), .int .u64 (UV a1), .int .u64 (UV a2), .int .u64 (UV a3), .int .u64 (UV a4), .int .u64 (UV a5), .int .u64 (UV a6)])
      (.agg #[.int .u64 (UV b0), .int .u64 (UV b1), .int .u64 (UV b2), .int .u64 (UV b3), .int .u64 (UV b4), .int .u64 (UV b5), .int .u64 (UV b6)])).run Try.prog w =
    .ok (a0 == b0 && (a1 == b1 && (a2 == b2 && (a3 == b3 && (a4 == b4 && (a5 == b5 && a6 == b6)))))) w := by
  obtain ⟨i, hi⟩ := u64_one
  rw [show d + 2 = (d + 1) + 1 from rfl, run_equalIn_array w (d + 1) _ _ Try.underlying23 hi]
  have hc : Try.prog.cellsOf 22 = 1 := by kernel_rfl
  rw [hc]
  have hp : ∀ (cs : Array Value) (k : Nat) (h : k < cs.size) (w : World), (part 22 cs k).run Try.prog w = .ok cs[k] w := by
    intro cs k h w
    simp [part, isAgg, run_underlying Try.underlying22, h]
  have he : ∀ (a b : BitVec 64) (w : World), (Op.equalIn (d + 1) 22 (.int .u64 (UV a)) (.int .u64 (UV b))).run Try.prog w = .ok (a == b) w := by
    intro a b w
    rw [run_equalIn_int w d _ .u64 .u64 _ _ Try.underlying22, UV_beq]
  simp only [List.range_succ, List.range_zero, List.nil_append, List.cons_append, Op.eqItems, Sem.run_bind, Nat.mul_one]
  simp [hp, he]
  by_cases h0 : a0 = b0
  case neg => simp [h0]
  by_cases h1 : a1 = b1
  case neg => simp [h0, h1]
  by_cases h2 : a2 = b2
  case neg => simp [h0, h1, h2]
  by_cases h3 : a3 = b3
  case neg => simp [h0, h1, h2, h3]
  by_cases h4 : a4 = b4
  case neg => simp [h0, h1, h2, h3, h4]
  by_cases h5 : a5 = b5
  case neg => simp [h0, h1, h2, h3, h4, h5]
  by_cases h6 : a6 = b6
  case neg => simp [h0, h1, h2, h3, h4, h5, h6]
  simp [h0, h1, h2, h3, h4, h5, h6]
/-- A page. -/
structure Pg where
  l : Int
  h : BitVec 64
  d0 : BitVec 64
  d1 : BitVec 64
  d2 : BitVec 64
  d3 : BitVec 64
  d4 : BitVec 64
  d5 : BitVec 64
  d6 : BitVec 64
  deriving DecidableEq
def Pg.cells (p : Pg) : List Value := [.int .i64 p.l, .int .u64 (UV p.h), .int .u64 (UV p.d0), .int .u64 (UV p.d1), .int .u64 (UV p.d2), .int .u64 (UV p.d3), .int .u64 (UV p.d4), .int .u64 (UV p.d5), .int .u64 (UV p.d6)]
def Pg.val (p : Pg) : Value := pageV p.l p.h p.d0 p.d1 p.d2 p.d3 p.d4 p.d5 p.d6
/-- A slice that reads as pages. -/
def SlP (w : World) (v : Value) (ps : List Pg) : Prop := SlN w v 9 ps.length (ps.flatMap Pg.cells)
theorem cells_get (ps : List Pg) (k j : Nat) (hk : k < ps.length) (hj : j < 9) : (ps.flatMap Pg.cells)[k * 9 + j]? = (ps[k].cells)[j]? := by
  induction ps generalizing k with
  | nil => simp at hk
  | cons p ps ih =>
    rw [List.flatMap_cons]
    cases k with
    | zero => rw [List.getElem?_append_left (by simp [Pg.cells]; omega)]; simp
    | succ k =>
      rw [List.getElem?_append_right (by simp [Pg.cells]; omega)]
      have e : (k + 1) * 9 + j - p.cells.length = k * 9 + j := by simp [Pg.cells]; omega
      rw [e, ih k (by simpa using hk)]
      rfl
/-- The nine cells of a page at an address. -/
def PgAt (w : World) (b o : Nat) (p : Pg) : Prop :=
  w.cell? ⟨b, o, none⟩ = some (.int .i64 p.l) ∧ w.cell? ⟨b, o + 1, none⟩ = some (.int .u64 (UV p.h)) ∧ w.cell? ⟨b, o + 2, none⟩ = some (.int .u64 (UV p.d0)) ∧ w.cell? ⟨b, o + 3, none⟩ = some (.int .u64 (UV p.d1)) ∧
  w.cell? ⟨b, o + 4, none⟩ = some (.int .u64 (UV p.d2)) ∧ w.cell? ⟨b, o + 5, none⟩ = some (.int .u64 (UV p.d3)) ∧ w.cell? ⟨b, o + 6, none⟩ = some (.int .u64 (UV p.d4)) ∧ w.cell? ⟨b, o + 7, none⟩ = some (.int .u64 (UV p.d5)) ∧ w.cell? ⟨b, o + 8, none⟩ = some (.int .u64 (UV p.d6))
theorem SlP.len {w : World} {a : Option Addr} {n c : Nat} {ps : List Pg} (h : SlP w (.slice a n c) ps) : ps.length = n := by
  rcases h.2 with ⟨a', c', e, e2⟩ | ⟨b, o, c', e, _⟩
  · injection e with _ e3 _; omega
  · injection e with _ e3 _; exact e3.symm
theorem SlP.form {w : World} {v : Value} {ps : List Pg} (h : SlP w v ps) : ∃ a c, v = .slice a ps.length c := by
  rcases h.2 with ⟨a', c', e, e2⟩ | ⟨b, o, c', e, _⟩
  · exact ⟨a', c', by rw [e, e2]⟩
  · exact ⟨_, c', e⟩
theorem SlP.at_ {w : World} {a : Option Addr} {n c : Nat} {ps : List Pg} (h : SlP w (.slice a n c) ps) {k : Nat} (hk : k < ps.length) :
    ∃ b o, a = some ⟨b, o, none⟩ ∧ b < w.heap.size ∧ PgAt w b (o + k * 9) ps[k] := by
  have hl := h.len
  rcases h.2 with ⟨a', c', e, e2⟩ | ⟨b, o, c', e, e2, e3, e4, e5⟩
  · omega
  · injection e with g1 g2 g3
    refine ⟨b, o, g1, e4, ?_⟩
    have g : ∀ j, j < 9 → ∀ u, (ps[k].cells)[j]? = some u → w.cell? ⟨b, o + k * 9 + j, none⟩ = some u := fun j hj u hu => by
      rw [Nat.add_assoc]
      exact e5 _ u ((cells_get ps k j hk hj).trans hu)
    exact ⟨g 0 (by omega) _ rfl, g 1 (by omega) _ rfl, g 2 (by omega) _ rfl, g 3 (by omega) _ rfl, g 4 (by omega) _ rfl, g 5 (by omega) _ rfl, g 6 (by omega) _ rfl, g 7 (by omega) _ rfl, g 8 (by omega) _ rfl⟩
theorem SlP.below {w w' : World} {v : Value} {ps : List Pg} (h : SlP w v ps) (hb : Below w.heap.size w w') : SlP w' v ps := SlN.below h hb (Nat.le_refl _)
theorem PgAt.below {w w' : World} {b o : Nat} {p : Pg} {B : Nat} (h : PgAt w b o p) (hb : Below B w w') (hB : b < B) : PgAt w' b o p := by
  have k : ∀ x, w'.cell? ⟨b, x, none⟩ = w.cell? ⟨b, x, none⟩ := fun x => hb.cell (p := ⟨b, x, none⟩) hB
  unfold PgAt at *
  simp only [k]
  exact h
/-- A new block that holds one page reads as a slice of it. -/
theorem slp_one (w : World) (t : TypeId) (l : Int) (h d0 d1 d2 d3 d4 d5 d6 : BitVec 64) :
    SlP (w.alloc (.cells #[.int .i64 l, .int .u64 (UV h), .int .u64 (UV d0), .int .u64 (UV d1), .int .u64 (UV d2), .int .u64 (UV d3), .int .u64 (UV d4), .int .u64 (UV d5), .int .u64 (UV d6)] t)) (.slice (some ⟨w.heap.size, 0, none⟩) 1 1) [⟨l, h, d0, d1, d2, d3, d4, d5, d6⟩] := by
  refine ⟨rfl, .inr ⟨_, _, 1, rfl, Nat.le_refl _, by decide, by simp, fun i u hu => ?_⟩⟩
  rw [Nat.zero_add, (Blk.new w t _).cell i, ← hu, List.getElem?_toArray]
  rfl
theorem SlP.alloc {w : World} {v : Value} {ps : List Pg} (h : SlP w v ps) (o : Obj) : SlP (w.alloc o) v ps := h.below ((Below.refl _ _).alloc (Nat.le_refl _) o)
end Go.Proofs.Ytpfojangcgffkaa

/- Pages, told by predicates; pages compared. Own work. -/
namespace Go.Proofs.Ytpfojangcgffkaa
open Go.RowKit
set_option linter.unusedVariables false
set_option linter.unusedSimpArgs false
def tPg : Ty Pg := ⟨9, fun p => [Is (.int .i64 p.l), Is (.int .u64 (UV p.h)), Is (.int .u64 (UV p.d0)), Is (.int .u64 (UV p.d1)), Is (.int .u64 (UV p.d2)), Is (.int .u64 (UV p.d3)), Is (.int .u64 (UV p.d4)), Is (.int .u64 (UV p.d5)), Is (.int .u64 (UV p.d6))], fun _ => rfl⟩
@[reducible] def IsPg (p : Pg) : VP := IsAgg (tPg.cells p)
set_option maxHeartbeats 1000000 in
theorem eqPg_run (p q : Pg) (w : World) : (Op.equal 25 (.agg p.cells.toArray) (.agg q.cells.toArray)).run Try.prog w = .ok (decide (p = q)) w := by
  have h : (Op.equalIn (9999 + 1) 25 (.agg #[.int .i64 p.l, .int .u64 (UV p.h), .int .u64 (UV p.d0), .int .u64 (UV p.d1), .int .u64 (UV p.d2), .int .u64 (UV p.d3), .int .u64 (UV p.d4), .int .u64 (UV p.d5), .int .u64 (UV p.d6)])
      (.agg #[.int .i64 q.l, .int .u64 (UV q.h), .int .u64 (UV q.d0), .int .u64 (UV q.d1), .int .u64 (UV q.d2), .int .u64 (UV q.d3), .int .u64 (UV q.d4), .int .u64 (UV q.d5), .int .u64 (UV q.d6)])).run Try.prog w = .ok (decide (p = q)) w := by
    go_simp
    obtain ⟨l, h, d0, d1, d2, d3, d4, d5, d6⟩ := p
    obtain ⟨l', h', d0', d1', d2', d3', d4', d5', d6'⟩ := q
    by_cases h1 : l = l'
    case neg => simp [h1]
    by_cases h2 : h = h'
    case neg => simp [h1, h2]
    by_cases e0 : d0 = d0'
    case neg => simp [h1, h2, e0]
    by_cases e1 : d1 = d1'
    case neg => simp [h1, h2, e0, e1]
    by_cases e2 : d2 = d2'
    case neg => simp [h1, h2, e0, e1, e2]
    by_cases e3 : d3 = d3'
    case neg => simp [h1, h2, e0, e1, e2, e3]
    by_cases e4 : d4 = d4'
    case neg => simp [h1, h2, e0, e1, e2, e3, e4]
    by_cases e5 : d5 = d5'
    case neg => simp [h1, h2, e0, e1, e2, e3, e4, e5]
    by_cases e6 : d6 = d6'
    case neg => simp [h1, h2, e0, e1, e2, e3, e4, e5, e6]
    simp [h1, h2, e0, e1, e2, e3, e4, e5, e6]
  exact h
theorem eqPg_guard (o : BinOp) (x y : Operand) (p q : Pg) (w : World) : (eqGuard o 25 x y (.agg p.cells.toArray) (.agg q.cells.toArray)).run Try.prog w = .ok () w := by
  have h : Try.prog.eqGuardType Try.prog.depth 25 = false := by kernel_rfl
  cases o <;> simp [eqGuard, program, Sem.run, h]
theorem eqPg_eql (p q : Pg) (w : World) : (binOp .eql 25 (.agg p.cells.toArray) (.agg q.cells.toArray)).run Try.prog w = .ok (.bool (decide (p = q))) w := by
  simp only [binOp, Sem.run_bind, eqPg_run, Result.andThen_ok, Sem.run_pure]
theorem eqPg_neq (p q : Pg) (w : World) : (binOp .neq 25 (.agg p.cells.toArray) (.agg q.cells.toArray)).run Try.prog w = .ok (.bool (!decide (p = q))) w := by
  simp only [binOp, Sem.run_bind, eqPg_run, Result.andThen_ok, Sem.run_pure]
end Go.Proofs.Ytpfojangcgffkaa

/- Pointers and tags: plain functions and their laws. Own work. -/
namespace Go.Proofs.Ytpfojangcgffkaa
open Go.RowKit
set_option linter.unusedVariables false
set_option linter.unusedSimpArgs false
theorem UV_low (w : Nat) (k : Nat) (x : BitVec w) (m : BitVec w) (hm : m.toNat = 2 ^ k - 1) : UV (x &&& m) = UV x % 2 ^ k := by
  unfold UV
  rw [BitVec.toNat_and, hm, Nat.and_two_pow_sub_one_eq_mod]
  push_cast; rfl
theorem UV_shr (w : Nat) (x : BitVec w) (n : Nat) : UV (x >>> n) = UV x / 2 ^ n := by
  unfold UV
  rw [BitVec.toNat_ushiftRight, Nat.shiftRight_eq_div_pow]
  push_cast; rfl
structure Pt where
  line : Int
  gen : Int
  deriving DecidableEq
def tPt : Ty Pt := ⟨2, fun p => [Is (.int .i64 p.line), Is (.int .i64 p.gen)], fun _ => rfl⟩
@[reducible] def IsPt (p : Pt) : VP := IsAgg (tPt.cells p)
def Pt.nil : Pt := ⟨0, 0⟩
def heapB (l : Int) : Bool := decide (l ≥ 104) && decide (l < 256)
def validP (p : Pt) : Bool := heapB p.line && decide (p.gen ≥ 1) && decide (p.gen ≤ 16777215)
def unpackP (w : BitVec 32) : Pt := ⟨UV w % 256, UV w / 256⟩
def packP (p : Pt) : BitVec 32 := if validP p then BitVec.ofInt 32 (p.line + 256 * p.gen) else 0#32
theorem validP_iff {p : Pt} : validP p = true ↔ 104 ≤ p.line ∧ p.line < 256 ∧ 1 ≤ p.gen ∧ p.gen ≤ 16777215 := by
  unfold validP heapB
  simp only [Bool.and_eq_true, decide_eq_true_eq]
  omega
theorem UV_ofInt32 {n : Int} (h : 0 ≤ n ∧ n < 4294967296) : UV (BitVec.ofInt 32 n) = n := by
  unfold UV
  rw [BitVec.toNat_ofInt]; omega
theorem unpack_pack {p : Pt} (h : validP p = true) : unpackP (packP p) = p := by
  have h1 := validP_iff.1 h
  unfold unpackP packP
  rw [if_pos h, UV_ofInt32 (by omega)]
  obtain ⟨l, g⟩ := p
  dsimp only at h1 ⊢
  congr 1 <;> omega
theorem pack_unpack {w : BitVec 32} (h : validP (unpackP w) = true) : packP (unpackP w) = w := by
  have h2 := UV_lt w
  have h3 := UV_nonneg w
  unfold packP
  rw [if_pos h]
  unfold unpackP
  dsimp only
  rw [show UV w % 256 + 256 * (UV w / 256) = UV w by omega, ofInt_UV]
theorem pack_ne {p : Pt} (h : validP p = true) : packP p ≠ 0#32 := fun e => by
  have h1 := validP_iff.1 h
  have h2 : UV (packP p) = p.line + 256 * p.gen := by unfold packP; rw [if_pos h, UV_ofInt32 (by omega)]
  rw [e] at h2
  simp [UV] at h2
  omega
theorem pack_or {p : Pt} (h : validP p = true) : BitVec.ofInt 32 p.gen <<< 8 ||| BitVec.ofInt 32 p.line = packP p := by
  have h1 := validP_iff.1 h
  have hg : (BitVec.ofInt 32 p.gen).toNat = p.gen.toNat := by rw [BitVec.toNat_ofInt]; omega
  have hl : (BitVec.ofInt 32 p.line).toNat = p.line.toNat := by rw [BitVec.toNat_ofInt]; omega
  unfold packP
  rw [if_pos h]
  apply BitVec.eq_of_toNat_eq
  rw [BitVec.toNat_or, BitVec.toNat_shiftLeft, hg, hl, BitVec.toNat_ofInt]
  have e : p.gen.toNat <<< 8 % 2 ^ 32 = 2 ^ 8 * p.gen.toNat := by rw [Nat.shiftLeft_eq]; omega
  rw [e, ← Nat.two_pow_add_eq_or_of_lt (by omega : p.line.toNat < 2 ^ 8)]
  omega
theorem pack_add {p : Pt} (h : validP p = true) : BitVec.ofInt 32 p.line + 256#32 * BitVec.ofInt 32 p.gen = packP p := by
  have h1 := validP_iff.1 h
  unfold packP
  rw [if_pos h]
  apply BitVec.eq_of_toNat_eq
  simp only [BitVec.toNat_add, BitVec.toNat_mul, BitVec.toNat_ofInt, BitVec.toNat_ofNat]
  omega
theorem pack_no {p : Pt} (h : validP p = false) : packP p = 0#32 := by unfold packP; rw [h]; rfl
theorem unpack_bits (x : BitVec 32) : unpackP x = ⟨UV (x &&& BitVec.ofInt 32 255), UV (x >>> 8)⟩ := by
  have h1 := UV_low 32 8 x (BitVec.ofInt 32 255) rfl
  have h2 := UV_shr 32 x 8
  rw [h1, h2]; rfl
theorem unpack_int (x : BitVec 32) : unpackP x = ⟨IntKind.i64.wrap ((UV x).tmod 256), IntKind.i64.wrap (IntKind.u32.wrap ((UV x).tdiv 256))⟩ := by
  have h1 := UV_nonneg x
  have h2 := UV_lt x
  rw [Int.tmod_eq_emod_of_nonneg h1, Int.tdiv_eq_ediv_of_nonneg h1, wU32 (n := UV x / 256) (by omega), wI64 (n := UV x % 256) (by omega), wI64 (n := UV x / 256) (by omega)]
  rfl
theorem unpack0 : unpackP 0#32 = Pt.nil := rfl
theorem valid_nil : validP Pt.nil = false := rfl
end Go.Proofs.Ytpfojangcgffkaa

/- Pointers compared. Own work. -/
namespace Go.Proofs.Ytpfojangcgffkaa
open Go.RowKit
set_option linter.unusedVariables false
set_option linter.unusedSimpArgs false
def Pt.cells (p : Pt) : List Value := [.int .i64 p.line, .int .i64 p.gen]
section
theorem eqPt_run (p q : Pt) (w : World) : (Op.equal 30 (.agg p.cells.toArray) (.agg q.cells.toArray)).run Try.prog w = .ok (decide (p = q)) w := by
  have h : (Op.equalIn (9999 + 1) 30 (.agg #[.int .i64 p.line, .int .i64 p.gen]) (.agg #[.int .i64 q.line, .int .i64 q.gen])).run Try.prog w = .ok (decide (p = q)) w := by
    go_simp
    obtain ⟨a, b⟩ := p
    obtain ⟨a', b'⟩ := q
    by_cases h1 : a = a' <;> by_cases h2 : b = b' <;> simp [h1, h2]
  exact h
theorem eqPt_guard (o : BinOp) (x y : Operand) (p q : Pt) (w : World) : (eqGuard o 30 x y (.agg p.cells.toArray) (.agg q.cells.toArray)).run Try.prog w = .ok () w := by
  have h : Try.prog.eqGuardType Try.prog.depth 30 = false := by kernel_rfl
  cases o <;> simp [eqGuard, program, Sem.run, h]
theorem eqPt_eql (p q : Pt) (w : World) : (binOp .eql 30 (.agg p.cells.toArray) (.agg q.cells.toArray)).run Try.prog w = .ok (.bool (decide (p = q))) w := by
  simp only [binOp, Sem.run_bind, eqPt_run, Result.andThen_ok, Sem.run_pure]
theorem eqPt_neq (p q : Pt) (w : World) : (binOp .neq 30 (.agg p.cells.toArray) (.agg q.cells.toArray)).run Try.prog w = .ok (.bool (!decide (p = q))) w := by
  simp only [binOp, Sem.run_bind, eqPt_run, Result.andThen_ok, Sem.run_pure]
theorem eqPtR_run (p q : Pt) (w : World) : (Op.equal 47 (.agg p.cells.toArray) (.agg q.cells.toArray)).run Try.prog w = .ok (decide (p = q)) w := by
  have h : (Op.equalIn (9999 + 1) 47 (.agg #[.int .i64 p.line, .int .i64 p.gen]) (.agg #[.int .i64 q.line, .int .i64 q.gen])).run Try.prog w = .ok (decide (p = q)) w := by
    go_simp
    obtain ⟨a, b⟩ := p
    obtain ⟨a', b'⟩ := q
    by_cases h1 : a = a' <;> by_cases h2 : b = b' <;> simp [h1, h2]
  exact h
theorem eqPtR_guard (o : BinOp) (x y : Operand) (p q : Pt) (w : World) : (eqGuard o 47 x y (.agg p.cells.toArray) (.agg q.cells.toArray)).run Try.prog w = .ok () w := by
  have h : Try.prog.eqGuardType Try.prog.depth 47 = false := by kernel_rfl
  cases o <;> simp [eqGuard, program, Sem.run, h]
theorem eqPtR_eql (p q : Pt) (w : World) : (binOp .eql 47 (.agg p.cells.toArray) (.agg q.cells.toArray)).run Try.prog w = .ok (.bool (decide (p = q))) w := by
  simp only [binOp, Sem.run_bind, eqPtR_run, Result.andThen_ok, Sem.run_pure]
theorem eqPtR_neq (p q : Pt) (w : World) : (binOp .neq 47 (.agg p.cells.toArray) (.agg q.cells.toArray)).run Try.prog w = .ok (.bool (!decide (p = q))) w := by
  simp only [binOp, Sem.run_bind, eqPtR_run, Result.andThen_ok, Sem.run_pure]
end
end Go.Proofs.Ytpfojangcgffkaa

/- Rules: a part of a struct or of an array that is a value. Own work. -/
namespace Go.Proofs.Ytpfojangcgffkaa
open Go.RowKit
set_option linter.unusedVariables false
set_option linter.unusedSimpArgs false
section
variable {P : Program} {c : Ctx} {A : Nat → Option VP} {L : List Item} {d : Option Tmp} {ty : TypeId} {pos : String} {af : Array Edge} {g : Option (Nat × Bool)}
theorem part_run1 {φ : Fz} {As : List VP} {vs : List Value} {t : TypeId} {D : TypeDesc} {o : Nat} {B : VP} {w : World} (h : Alls φ As vs) (hu : P.underlying t = some D) (hD : aggB D = false) (hB : As[o]? = some B) : ∃ v, (part t vs.toArray o).run P w = .ok v w ∧ B.ok φ v := by
  obtain ⟨v, h3, h4⟩ := alls_arr h hB
  exact ⟨v, by simp only [part, Sem.run_bind, run_isAgg hu, hD, Result.andThen_ok, h3]; rfl, h4⟩
theorem part_runA {φ : Fz} {As Rs : List VP} {vs : List Value} {t : TypeId} {D : TypeDesc} {o n : Nat} {w : World} (h : Alls φ As vs) (h1 : ones vs) (hu : P.underlying t = some D) (hD : aggB D = true) (hn : (P.info? t).map (·.size) = some n) (hR : (As.drop o).take n = Rs) :
    ∃ v, (part t vs.toArray o).run P w = .ok v w ∧ (IsAgg Rs).ok φ v := by
  refine ⟨.agg ((vs.drop o).take n).toArray, ?_, (vs.drop o).take n, rfl, ?_, fun u hu => h1 u (List.mem_of_mem_drop (List.mem_of_mem_take hu))⟩
  · simp only [part, Sem.run_bind, run_isAgg hu, hD, Result.andThen_ok, if_true, run_sizeOf hn, Sem.run_pure]
    congr 2
    apply Array.ext'
    simp
  · rw [← hR]; exact (h.drop o).take n
theorem op_fieldV1 {s : TypeId} {x : Operand} {i : Nat} {fs : Array Field} {f : Field} {As : List VP} {B : VP} {D : TypeDesc} (hx : Ev A L x (IsAgg As)) (hu : P.underlying s = some (.struct fs)) (hf : fs[i]? = some f) (hD : P.underlying f.type = some D) (hd : aggB D = false) (hB : As[f.offset]? = some B) :
    OpP P c ⟨d, .field s x i, ty, pos, af, g⟩ A L B :=
  opp fun φ a w hm he => by
    obtain ⟨vs, h1, h2, h3⟩ : (IsAgg As).ok φ (a.eval x) := he x (by simp [Op.operands]) _ hx
    obtain ⟨v, h4, h5⟩ := part_run1 (w := w) h2 hD hd hB
    refine ⟨v, ?_, h5⟩
    simp only [execOp, h1]
    refine run_val ?_
    simp only [Instr.field, asAgg, Sem.run_bind, Sem.run_pure, run_underlying hu, Result.andThen_ok, hf]
    exact h4
theorem op_indexV {t e : TypeId} {x y : Operand} {As Rs : List VP} {len sz k : Nat} {j : Int} {q : IntKind} {D : TypeDesc} (hx : Ev A L x (IsAgg As)) (hy : Ev A L y (Is (.int q j))) (hu : P.underlying t = some (.array len e)) (hD : P.underlying e = some D) (hd : aggB D = true) (hs : (P.info? e).map (·.size) = some sz) (hj : j = k) (hk : k < len) (hR : (As.drop (k * sz)).take sz = Rs) :
    OpP P c ⟨d, .index t x y, ty, pos, af, g⟩ A L (IsAgg Rs) :=
  opp fun φ a w hm he => by
    obtain ⟨vs, h1, h2, h3⟩ : (IsAgg As).ok φ (a.eval x) := he x (by simp [Op.operands]) _ hx
    have h6 : a.eval y = .int q j := he y (by simp [Op.operands]) _ hy
    obtain ⟨v, h4, h5⟩ := part_runA (w := w) h2 h3 hD hd hs hR
    refine ⟨v, ?_, h5⟩
    have h7 : (0 : Int) ≤ j ∧ j < (len : Int) := by omega
    have h8 : j.toNat = k := by omega
    simp only [execOp, h1, h6]
    refine run_val ?_
    simp only [Instr.index, asIntOf, Sem.run_bind, Sem.run_pure, Result.andThen_ok, run_underlying hu, h7, and_self, if_true, run_sizeOf hs, h8]
    exact h4
end
end Go.Proofs.Ytpfojangcgffkaa

/- Headers, retired entries, node pages: their cells; compared. Own work. -/
namespace Go.Proofs.Ytpfojangcgffkaa
open Go.RowKit
set_option linter.unusedVariables false
set_option linter.unusedSimpArgs false
structure Hd where
  owner : Int
  used : BitVec 32
  deriving DecidableEq
structure Re where
  to : Pt
  ep : BitVec 32
  deriving DecidableEq
structure Nd where
  pin : Bool
  ep : BitVec 32
  sg : BitVec 32
  inc : Int
  r0 : Re
  r1 : Re
  r2 : Re
  r3 : Re
  deriving DecidableEq
def Hd.nil : Hd := ⟨0, 0#32⟩
def Re.nil : Re := ⟨Pt.nil, 0#32⟩
def Nd.nil : Nd := ⟨false, 0#32, 0#32, 0, Re.nil, Re.nil, Re.nil, Re.nil⟩
def tHd : Ty Hd := ⟨2, fun x => [Is (.int .i64 x.owner), Is (.int .u32 (UV x.used))], fun _ => rfl⟩
@[reducible] def IsHd (x : Hd) : VP := IsAgg (tHd.cells x)
def Hd.cells (x : Hd) : List Value := [.int .i64 x.owner, .int .u32 (UV x.used)]
def tRe : Ty Re := ⟨3, fun x => [Is (.int .i64 x.to.line), Is (.int .i64 x.to.gen), Is (.int .u32 (UV x.ep))], fun _ => rfl⟩
@[reducible] def IsRe (x : Re) : VP := IsAgg (tRe.cells x)
def Re.cells (x : Re) : List Value := [.int .i64 x.to.line, .int .i64 x.to.gen, .int .u32 (UV x.ep)]
def tNd : Ty Nd := ⟨16, fun x => [Is (.bool x.pin), Is (.int .u32 (UV x.ep)), Is (.int .u32 (UV x.sg)), Is (.int .i64 x.inc), Is (.int .i64 x.r0.to.line), Is (.int .i64 x.r0.to.gen), Is (.int .u32 (UV x.r0.ep)), Is (.int .i64 x.r1.to.line), Is (.int .i64 x.r1.to.gen), Is (.int .u32 (UV x.r1.ep)), Is (.int .i64 x.r2.to.line), Is (.int .i64 x.r2.to.gen), Is (.int .u32 (UV x.r2.ep)), Is (.int .i64 x.r3.to.line), Is (.int .i64 x.r3.to.gen), Is (.int .u32 (UV x.r3.ep))], fun _ => rfl⟩
@[reducible] def IsNd (x : Nd) : VP := IsAgg (tNd.cells x)
def Nd.cells (x : Nd) : List Value := [.bool x.pin, .int .u32 (UV x.ep), .int .u32 (UV x.sg), .int .i64 x.inc, .int .i64 x.r0.to.line, .int .i64 x.r0.to.gen, .int .u32 (UV x.r0.ep), .int .i64 x.r1.to.line, .int .i64 x.r1.to.gen, .int .u32 (UV x.r1.ep), .int .i64 x.r2.to.line, .int .i64 x.r2.to.gen, .int .u32 (UV x.r2.ep), .int .i64 x.r3.to.line, .int .i64 x.r3.to.gen, .int .u32 (UV x.r3.ep)]
theorem eqHd_run (p q : Hd) (w : World) : (Op.equal 28 (.agg p.cells.toArray) (.agg q.cells.toArray)).run Try.prog w = .ok (decide (p = q)) w := by
  have h : (Op.equalIn (9999 + 1) 28 (.agg #[.int .i64 p.owner, .int .u32 (UV p.used)]) (.agg #[.int .i64 q.owner, .int .u32 (UV q.used)])).run Try.prog w = .ok (decide (p = q)) w := by
    go_simp
    obtain ⟨a, b⟩ := p
    obtain ⟨a', b'⟩ := q
    by_cases h1 : a = a' <;> by_cases h2 : b = b' <;> simp [h1, h2]
  exact h
theorem eqHd_guard (o : BinOp) (x y : Operand) (p q : Hd) (w : World) : (eqGuard o 28 x y (.agg p.cells.toArray) (.agg q.cells.toArray)).run Try.prog w = .ok () w := by
  have h : Try.prog.eqGuardType Try.prog.depth 28 = false := by kernel_rfl
  cases o <;> simp [eqGuard, program, Sem.run, h]
theorem eqHd_eql (p q : Hd) (w : World) : (binOp .eql 28 (.agg p.cells.toArray) (.agg q.cells.toArray)).run Try.prog w = .ok (.bool (decide (p = q))) w := by
  simp only [binOp, Sem.run_bind, eqHd_run, Result.andThen_ok, Sem.run_pure]
theorem eqHd_neq (p q : Hd) (w : World) : (binOp .neq 28 (.agg p.cells.toArray) (.agg q.cells.toArray)).run Try.prog w = .ok (.bool (!decide (p = q))) w := by
  simp only [binOp, Sem.run_bind, eqHd_run, Result.andThen_ok, Sem.run_pure]
theorem eqRe_el (d : Nat) (w : World) (p q : Re) : (Op.equalIn (d + 3) 32 (.agg #[.int .i64 p.to.line, .int .i64 p.to.gen, .int .u32 (UV p.ep)]) (.agg #[.int .i64 q.to.line, .int .i64 q.to.gen, .int .u32 (UV q.ep)])).run Try.prog w = .ok (decide (p = q)) w := by
  go_simp
  obtain ⟨⟨a, b⟩, c⟩ := p
  obtain ⟨⟨a', b'⟩, c'⟩ := q
  by_cases h1 : a = a' <;> by_cases h2 : b = b' <;> by_cases h3 : c = c' <;> simp [h1, h2, h3]
theorem eqRe_run (p q : Re) (w : World) : (Op.equal 32 (.agg p.cells.toArray) (.agg q.cells.toArray)).run Try.prog w = .ok (decide (p = q)) w := eqRe_el 9997 w p q
theorem eqRe_one : ∃ i, Try.prog.info? 32 = some i := by
  have h : (Try.prog.info? 32).isSome = true := by kernel_rfl
  exact Option.isSome_iff_exists.1 h
theorem eqRe_part (cs : Array Value) (k : Nat) (w : World) : (part 32 cs k).run Try.prog w = .ok (.agg (cs.extract k (k + 3))) w := by
  have hn : (Try.prog.info? 32).map (·.size) = some 3 := by kernel_rfl
  have hu : (isAgg 32).run Try.prog w = .ok true w := run_isAgg Try.underlying32 w
  simp only [part, Sem.run_bind, hu, Result.andThen_ok, if_true, run_sizeOf hn, Sem.run_pure]
set_option maxHeartbeats 4000000 in
@[go_sem high] theorem eqRe_4 (d : Nat) (w : World) (a0 a1 a2 a3 b0 b1 b2 b3 : Re) :
    (Op.equalIn (d + 4) 33 (.agg #[.int .i64 a0.to.line, .int .i64 a0.to.gen, .int .u32 (UV a0.ep), .int .i64 a1.to.line, .int .i64 a1.to.gen, .int .u32 (UV a1.ep), .int .i64 a2.to.line, .int .i64 a2.to.gen, .int .u32 (UV a2.ep), .int .i64 a3.to.line, .int .i64 a3.to.gen, .int .u32 (UV a3.ep)]) (.agg #[.int .i64 b0.to.line, .int .i64 b0.to.gen, .int .u32 (UV b0.ep), .int .i64 b1.to.line, .int .i64 b1.to.gen, .int .u32 (UV b1.ep), .int .i64 b2.to.line, .int .i64 b2.to.gen, .int .u32 (UV b2.ep), .int .i64 b3.to.line, .int .i64 b3.to.gen, .int .u32 (UV b3.ep)])).run Try.prog w = .ok ((decide (a0 = b0) && (decide (a1 = b1) && (decide (a2 = b2) && decide (a3 = b3))))) w := by
  obtain ⟨i, hi⟩ := eqRe_one
  rw [show d + 4 = (d + 3) + 1 from rfl, run_equalIn_array w (d + 3) _ _ Try.underlying33 hi]
  have hc : Try.prog.cellsOf 32 = 3 := by kernel_rfl
  rw [hc]
  simp only [List.range_succ, List.range_zero, List.nil_append, List.cons_append, Op.eqItems, Sem.run_bind, eqRe_part, Result.andThen_ok]
  have e0 := eqRe_el d w a0 b0
  have e1 := eqRe_el d w a1 b1
  have e2 := eqRe_el d w a2 b2
  have e3 := eqRe_el d w a3 b3
  simp [eqRe_part, e0, e1, e2, e3]
  by_cases h0 : a0 = b0
  case neg => simp [eqRe_part, e0, e1, e2, e3, h0]
  by_cases h1 : a1 = b1
  case neg => simp [eqRe_part, e0, e1, e2, e3, h0, h1]
  by_cases h2 : a2 = b2
  case neg => simp [eqRe_part, e0, e1, e2, e3, h0, h1, h2]
  by_cases h3 : a3 = b3 <;> simp [eqRe_part, e0, e1, e2, e3, h0, h1, h2, h3]
theorem eqRe_guard (o : BinOp) (x y : Operand) (p q : Re) (w : World) : (eqGuard o 32 x y (.agg p.cells.toArray) (.agg q.cells.toArray)).run Try.prog w = .ok () w := by
  have h : Try.prog.eqGuardType Try.prog.depth 32 = false := by kernel_rfl
  cases o <;> simp [eqGuard, program, Sem.run, h]
theorem eqRe_eql (p q : Re) (w : World) : (binOp .eql 32 (.agg p.cells.toArray) (.agg q.cells.toArray)).run Try.prog w = .ok (.bool (decide (p = q))) w := by
  simp only [binOp, Sem.run_bind, eqRe_run, Result.andThen_ok, Sem.run_pure]
theorem eqRe_neq (p q : Re) (w : World) : (binOp .neq 32 (.agg p.cells.toArray) (.agg q.cells.toArray)).run Try.prog w = .ok (.bool (!decide (p = q))) w := by
  simp only [binOp, Sem.run_bind, eqRe_run, Result.andThen_ok, Sem.run_pure]
set_option maxHeartbeats 4000000 in
theorem eqNd_run (p q : Nd) (w : World) : (Op.equal 35 (.agg p.cells.toArray) (.agg q.cells.toArray)).run Try.prog w = .ok (decide (p = q)) w := by
  obtain ⟨ap, ae, ag, ai, a0, a1, a2, a3⟩ := p
  obtain ⟨bp, be, bg, bi, b0, b1, b2, b3⟩ := q
  have h : (Op.equalIn (9999 + 1) 35 (.agg #[.bool ap, .int .u32 (UV ae), .int .u32 (UV ag), .int .i64 ai, .int .i64 a0.to.line, .int .i64 a0.to.gen, .int .u32 (UV a0.ep), .int .i64 a1.to.line, .int .i64 a1.to.gen, .int .u32 (UV a1.ep), .int .i64 a2.to.line, .int .i64 a2.to.gen, .int .u32 (UV a2.ep), .int .i64 a3.to.line, .int .i64 a3.to.gen, .int .u32 (UV a3.ep)]) (.agg #[.bool bp, .int .u32 (UV be), .int .u32 (UV bg), .int .i64 bi, .int .i64 b0.to.line, .int .i64 b0.to.gen, .int .u32 (UV b0.ep), .int .i64 b1.to.line, .int .i64 b1.to.gen, .int .u32 (UV b1.ep), .int .i64 b2.to.line, .int .i64 b2.to.gen, .int .u32 (UV b2.ep), .int .i64 b3.to.line, .int .i64 b3.to.gen, .int .u32 (UV b3.ep)])).run Try.prog w = .ok (decide ((⟨ap, ae, ag, ai, a0, a1, a2, a3⟩ : Nd) = ⟨bp, be, bg, bi, b0, b1, b2, b3⟩)) w := by
    go_simp
    by_cases hp : ap = bp
    case neg => simp [hp]
    by_cases he : ae = be
    case neg => simp [hp, he]
    by_cases hs : ag = bg
    case neg => simp [hp, he, hs]
    by_cases hi : ai = bi
    case neg => simp [hp, he, hs, hi]
    by_cases h1 : a0 = b0
    case neg => simp [hp, he, hs, hi, h1]
    by_cases h2 : a1 = b1
    case neg => simp [hp, he, hs, hi, h1, h2]
    by_cases h3 : a2 = b2 <;> by_cases h4 : a3 = b3 <;> simp [hp, he, hs, hi, h1, h2, h3, h4]
  exact h
theorem eqNd_guard (o : BinOp) (x y : Operand) (p q : Nd) (w : World) : (eqGuard o 35 x y (.agg p.cells.toArray) (.agg q.cells.toArray)).run Try.prog w = .ok () w := by
  have h : Try.prog.eqGuardType Try.prog.depth 35 = false := by kernel_rfl
  cases o <;> simp [eqGuard, program, Sem.run, h]
theorem eqNd_eql (p q : Nd) (w : World) : (binOp .eql 35 (.agg p.cells.toArray) (.agg q.cells.toArray)).run Try.prog w = .ok (.bool (decide (p = q))) w := by
  simp only [binOp, Sem.run_bind, eqNd_run, Result.andThen_ok, Sem.run_pure]
theorem eqNd_neq (p q : Nd) (w : World) : (binOp .neq 35 (.agg p.cells.toArray) (.agg q.cells.toArray)).run Try.prog w = .ok (.bool (!decide (p = q))) w := by
  simp only [binOp, Sem.run_bind, eqNd_run, Result.andThen_ok, Sem.run_pure]
theorem eqHdR_run (p q : Hd) (w : World) : (Op.equal 42 (.agg p.cells.toArray) (.agg q.cells.toArray)).run Try.prog w = .ok (decide (p = q)) w := by
  have h : (Op.equalIn (9999 + 1) 42 (.agg #[.int .i64 p.owner, .int .u32 (UV p.used)]) (.agg #[.int .i64 q.owner, .int .u32 (UV q.used)])).run Try.prog w = .ok (decide (p = q)) w := by
    go_simp
    obtain ⟨a, b⟩ := p
    obtain ⟨a', b'⟩ := q
    by_cases h1 : a = a' <;> by_cases h2 : b = b' <;> simp [h1, h2]
  exact h
theorem eqHdR_guard (o : BinOp) (x y : Operand) (p q : Hd) (w : World) : (eqGuard o 42 x y (.agg p.cells.toArray) (.agg q.cells.toArray)).run Try.prog w = .ok () w := by
  have h : Try.prog.eqGuardType Try.prog.depth 42 = false := by kernel_rfl
  cases o <;> simp [eqGuard, program, Sem.run, h]
theorem eqHdR_eql (p q : Hd) (w : World) : (binOp .eql 42 (.agg p.cells.toArray) (.agg q.cells.toArray)).run Try.prog w = .ok (.bool (decide (p = q))) w := by
  simp only [binOp, Sem.run_bind, eqHdR_run, Result.andThen_ok, Sem.run_pure]
theorem eqHdR_neq (p q : Hd) (w : World) : (binOp .neq 42 (.agg p.cells.toArray) (.agg q.cells.toArray)).run Try.prog w = .ok (.bool (!decide (p = q))) w := by
  simp only [binOp, Sem.run_bind, eqHdR_run, Result.andThen_ok, Sem.run_pure]
theorem eqReR_el (d : Nat) (w : World) (p q : Re) : (Op.equalIn (d + 3) 49 (.agg #[.int .i64 p.to.line, .int .i64 p.to.gen, .int .u32 (UV p.ep)]) (.agg #[.int .i64 q.to.line, .int .i64 q.to.gen, .int .u32 (UV q.ep)])).run Try.prog w = .ok (decide (p = q)) w := by
  go_simp
  obtain ⟨⟨a, b⟩, c⟩ := p
  obtain ⟨⟨a', b'⟩, c'⟩ := q
  by_cases h1 : a = a' <;> by_cases h2 : b = b' <;> by_cases h3 : c = c' <;> simp [h1, h2, h3]
theorem eqReR_run (p q : Re) (w : World) : (Op.equal 49 (.agg p.cells.toArray) (.agg q.cells.toArray)).run Try.prog w = .ok (decide (p = q)) w := eqReR_el 9997 w p q
theorem eqReR_one : ∃ i, Try.prog.info? 49 = some i := by
  have h : (Try.prog.info? 49).isSome = true := by kernel_rfl
  exact Option.isSome_iff_exists.1 h
theorem eqReR_part (cs : Array Value) (k : Nat) (w : World) : (part 49 cs k).run Try.prog w = .ok (.agg (cs.extract k (k + 3))) w := by
  have hn : (Try.prog.info? 49).map (·.size) = some 3 := by kernel_rfl
  have hu : (isAgg 49).run Try.prog w = .ok true w := run_isAgg Try.underlying49 w
  simp only [part, Sem.run_bind, hu, Result.andThen_ok, if_true, run_sizeOf hn, Sem.run_pure]
set_option maxHeartbeats 4000000 in
@[go_sem high] theorem eqReR_4 (d : Nat) (w : World) (a0 a1 a2 a3 b0 b1 b2 b3 : Re) :
    (Op.equalIn (d + 4) 50 (.agg #[.int .i64 a0.to.line, .int .i64 a0.to.gen, .int .u32 (UV a0.ep), .int .i64 a1.to.line, .int .i64 a1.to.gen, .int .u32 (UV a1.ep), .int .i64 a2.to.line, .int .i64 a2.to.gen, .int .u32 (UV a2.ep), .int .i64 a3.to.line, .int .i64 a3.to.gen, .int .u32 (UV a3.ep)]) (.agg #[.int .i64 b0.to.line, .int .i64 b0.to.gen, .int .u32 (UV b0.ep), .int .i64 b1.to.line, .int .i64 b1.to.gen, .int .u32 (UV b1.ep), .int .i64 b2.to.line, .int .i64 b2.to.gen, .int .u32 (UV b2.ep), .int .i64 b3.to.line, .int .i64 b3.to.gen, .int .u32 (UV b3.ep)])).run Try.prog w = .ok ((decide (a0 = b0) && (decide (a1 = b1) && (decide (a2 = b2) && decide (a3 = b3))))) w := by
  obtain ⟨i, hi⟩ := eqReR_one
  rw [show d + 4 = (d + 3) + 1 from rfl, run_equalIn_array w (d + 3) _ _ Try.underlying50 hi]
  have hc : Try.prog.cellsOf 49 = 3 := by kernel_rfl
  rw [hc]
  simp only [List.range_succ, List.range_zero, List.nil_append, List.cons_append, Op.eqItems, Sem.run_bind, eqReR_part, Result.andThen_ok]
  have e0 := eqReR_el d w a0 b0
  have e1 := eqReR_el d w a1 b1
  have e2 := eqReR_el d w a2 b2
  have e3 := eqReR_el d w a3 b3
  simp [eqReR_part, e0, e1, e2, e3]
  by_cases h0 : a0 = b0
  case neg => simp [eqReR_part, e0, e1, e2, e3, h0]
  by_cases h1 : a1 = b1
  case neg => simp [eqReR_part, e0, e1, e2, e3, h0, h1]
  by_cases h2 : a2 = b2
  case neg => simp [eqReR_part, e0, e1, e2, e3, h0, h1, h2]
  by_cases h3 : a3 = b3 <;> simp [eqReR_part, e0, e1, e2, e3, h0, h1, h2, h3]
theorem eqReR_guard (o : BinOp) (x y : Operand) (p q : Re) (w : World) : (eqGuard o 49 x y (.agg p.cells.toArray) (.agg q.cells.toArray)).run Try.prog w = .ok () w := by
  have h : Try.prog.eqGuardType Try.prog.depth 49 = false := by kernel_rfl
  cases o <;> simp [eqGuard, program, Sem.run, h]
theorem eqReR_eql (p q : Re) (w : World) : (binOp .eql 49 (.agg p.cells.toArray) (.agg q.cells.toArray)).run Try.prog w = .ok (.bool (decide (p = q))) w := by
  simp only [binOp, Sem.run_bind, eqReR_run, Result.andThen_ok, Sem.run_pure]
theorem eqReR_neq (p q : Re) (w : World) : (binOp .neq 49 (.agg p.cells.toArray) (.agg q.cells.toArray)).run Try.prog w = .ok (.bool (!decide (p = q))) w := by
  simp only [binOp, Sem.run_bind, eqReR_run, Result.andThen_ok, Sem.run_pure]
set_option maxHeartbeats 4000000 in
theorem eqNdR_run (p q : Nd) (w : World) : (Op.equal 52 (.agg p.cells.toArray) (.agg q.cells.toArray)).run Try.prog w = .ok (decide (p = q)) w := by
  obtain ⟨ap, ae, ag, ai, a0, a1, a2, a3⟩ := p
  obtain ⟨bp, be, bg, bi, b0, b1, b2, b3⟩ := q
  have h : (Op.equalIn (9999 + 1) 52 (.agg #[.bool ap, .int .u32 (UV ae), .int .u32 (UV ag), .int .i64 ai, .int .i64 a0.to.line, .int .i64 a0.to.gen, .int .u32 (UV a0.ep), .int .i64 a1.to.line, .int .i64 a1.to.gen, .int .u32 (UV a1.ep), .int .i64 a2.to.line, .int .i64 a2.to.gen, .int .u32 (UV a2.ep), .int .i64 a3.to.line, .int .i64 a3.to.gen, .int .u32 (UV a3.ep)]) (.agg #[.bool bp, .int .u32 (UV be), .int .u32 (UV bg), .int .i64 bi, .int .i64 b0.to.line, .int .i64 b0.to.gen, .int .u32 (UV b0.ep), .int .i64 b1.to.line, .int .i64 b1.to.gen, .int .u32 (UV b1.ep), .int .i64 b2.to.line, .int .i64 b2.to.gen, .int .u32 (UV b2.ep), .int .i64 b3.to.line, .int .i64 b3.to.gen, .int .u32 (UV b3.ep)])).run Try.prog w = .ok (decide ((⟨ap, ae, ag, ai, a0, a1, a2, a3⟩ : Nd) = ⟨bp, be, bg, bi, b0, b1, b2, b3⟩)) w := by
    go_simp
    by_cases hp : ap = bp
    case neg => simp [hp]
    by_cases he : ae = be
    case neg => simp [hp, he]
    by_cases hs : ag = bg
    case neg => simp [hp, he, hs]
    by_cases hi : ai = bi
    case neg => simp [hp, he, hs, hi]
    by_cases h1 : a0 = b0
    case neg => simp [hp, he, hs, hi, h1]
    by_cases h2 : a1 = b1
    case neg => simp [hp, he, hs, hi, h1, h2]
    by_cases h3 : a2 = b2 <;> by_cases h4 : a3 = b3 <;> simp [hp, he, hs, hi, h1, h2, h3, h4]
  exact h
theorem eqNdR_guard (o : BinOp) (x y : Operand) (p q : Nd) (w : World) : (eqGuard o 52 x y (.agg p.cells.toArray) (.agg q.cells.toArray)).run Try.prog w = .ok () w := by
  have h : Try.prog.eqGuardType Try.prog.depth 52 = false := by kernel_rfl
  cases o <;> simp [eqGuard, program, Sem.run, h]
theorem eqNdR_eql (p q : Nd) (w : World) : (binOp .eql 52 (.agg p.cells.toArray) (.agg q.cells.toArray)).run Try.prog w = .ok (.bool (decide (p = q))) w := by
  simp only [binOp, Sem.run_bind, eqNdR_run, Result.andThen_ok, Sem.run_pure]
theorem eqNdR_neq (p q : Nd) (w : World) : (binOp .neq 52 (.agg p.cells.toArray) (.agg q.cells.toArray)).run Try.prog w = .ok (.bool (!decide (p = q))) w := by
  simp only [binOp, Sem.run_bind, eqNdR_run, Result.andThen_ok, Sem.run_pure]
end Go.Proofs.Ytpfojangcgffkaa

/- Types' cells normalised; by name. Own work. -/
namespace Go.Proofs.Ytpfojangcgffkaa
open Go.RowKit
theorem nrmT {a b : List VP} (h : a = b := by (first | ((simp only [tPg, tU64, tI64, tPt, tHd, tRe, tNd, zcells, Nat.reduceMul, Nat.reduceAdd, Value.cells, ovr, List.set_cons_succ, List.set_cons_zero, List.map_cons, List.map_nil, List.drop_succ_cons, List.drop_zero, List.take_succ_cons, List.take_zero, List.flatMap_cons, List.flatMap_nil, List.append_nil, List.cons_append, List.nil_append, List.toList_toArray]); (try exact rfl)) | exact rfl)) : a = b := h
end Go.Proofs.Ytpfojangcgffkaa

/- From 'well formed' to a bit vector, to bounds. Own work. -/
namespace Go.Proofs.Ytpfojangcgffkaa
open Go.RowKit
theorem u64_of_wf {a : Int} (h : (Lit.int .u64 a).wf = true) : ∃ x : BitVec 64, a = UV x := by
  simp [Lit.wf, IntKind.min, IntKind.max, IntKind.signed, IntKind.bits] at h
  refine ⟨BitVec.ofNat 64 a.toNat, ?_⟩
  unfold UV
  rw [BitVec.toNat_ofNat]
  omega
theorem u32_of_wf {a : Int} (h : (Lit.int .u32 a).wf = true) : ∃ x : BitVec 32, a = UV x := by
  simp [Lit.wf, IntKind.min, IntKind.max, IntKind.signed, IntKind.bits] at h
  refine ⟨BitVec.ofNat 32 a.toNat, ?_⟩
  unfold UV
  rw [BitVec.toNat_ofNat]
  omega
theorem u8_of_wf {a : Int} (h : (Lit.int .u8 a).wf = true) : ∃ x : BitVec 8, a = UV x := by
  simp [Lit.wf, IntKind.min, IntKind.max, IntKind.signed, IntKind.bits] at h
  refine ⟨BitVec.ofNat 8 a.toNat, ?_⟩
  unfold UV
  rw [BitVec.toNat_ofNat]
  omega
theorem i64_of_wf {a : Int} (h : (Lit.int .i64 a).wf = true) : -9223372036854775808 ≤ a ∧ a ≤ 9223372036854775807 := by
  simp [Lit.wf, IntKind.min, IntKind.max, IntKind.signed, IntKind.bits] at h
  omega
end Go.Proofs.Ytpfojangcgffkaa

/- From the frame's reading of a slice of integers to a list of bit vectors. Own work. -/
namespace Go.Proofs.Ytpfojangcgffkaa
open Go.RowKit
set_option linter.unusedVariables false
set_option linter.unusedSimpArgs false
theorem sl_of_row {k : IntKind} {w : World} {a : Option Addr} {len cap : Nat} {zs : List Int}
    (h : (a = none ∧ len = 0 ∧ cap = 0 ∧ zs = []) ∨
      ∃ x, a = some x ∧ len ≤ cap ∧ cap ≤ maxLen ∧ zs.length = cap ∧ (∀ i, i < zs.length → w.cell? (x.add i) = some (.int k (zs.getD i 0))) ∧ ∀ n ∈ zs, (Lit.int k n).wf = true) :
    Sl w (.slice a len cap) ((zs.take len).map (Value.int k)) ∧ (zs.take len).length = len ∧ ∀ n ∈ zs.take len, (Lit.int k n).wf = true := by
  rcases h with ⟨rfl, rfl, rfl, rfl⟩ | ⟨x, rfl, h1, h2, h3, h4, h5⟩
  · exact ⟨⟨rfl, .inl ⟨_, _, rfl, rfl⟩⟩, rfl, by simp⟩
  · have hl : (zs.take len).length = len := by rw [List.length_take]; omega
    refine ⟨⟨by simp, ?_⟩, hl, fun n hn => h5 n (List.mem_of_mem_take hn)⟩
    rw [List.length_map, hl]
    by_cases h0 : len = 0
    · subst h0; exact .inl ⟨_, _, rfl, rfl⟩
    · obtain ⟨b, o, sp⟩ := x
      have hc := h4 0 (by omega)
      have hsp : sp = none := by simpa [Addr.add] using World.cell?_spot hc
      subst hsp
      refine .inr ⟨b, o, cap, rfl, h1, h2, block_lt_of_cell (a := ⟨b, o, none⟩) (by simpa [Addr.add] using hc), fun i u hu => ?_⟩
      rw [List.getElem?_map] at hu
      have hi : i < len := by
        rcases Nat.lt_or_ge i len with g | g
        · exact g
        · rw [List.getElem?_eq_none (by rw [hl]; exact g)] at hu; cases hu
      have hd := h4 i (by omega)
      rw [← Addr.add_lit b o i, hd]
      rw [List.getElem?_take_of_lt hi, List.getElem?_eq_getElem (by omega)] at hu
      simp only [Option.map_some] at hu
      rw [← hu, List.getD_eq_getElem?_getD, List.getElem?_eq_getElem (by omega)]
      rfl
theorem u8s_of_wf : ∀ {l : List Int}, (∀ n ∈ l, (Lit.int .u8 n).wf = true) → ∃ bs : List (BitVec 8), l.map (Value.int .u8) = bs.map fun b => Value.int .u8 (UV b)
  | [], _ => ⟨[], rfl⟩
  | a :: l, h => by
    obtain ⟨x, rfl⟩ := u8_of_wf (h a List.mem_cons_self)
    obtain ⟨bs, e⟩ := u8s_of_wf fun n hn => h n (List.mem_cons_of_mem _ hn)
    exact ⟨x :: bs, by rw [List.map_cons, List.map_cons, e]⟩
theorem u64s_of_wf : ∀ {l : List Int}, (∀ n ∈ l, (Lit.int .u64 n).wf = true) → ∃ bs : List (BitVec 64), l.map (Value.int .u64) = bs.map fun b => Value.int .u64 (UV b)
  | [], _ => ⟨[], rfl⟩
  | a :: l, h => by
    obtain ⟨x, rfl⟩ := u64_of_wf (h a List.mem_cons_self)
    obtain ⟨bs, e⟩ := u64s_of_wf fun n hn => h n (List.mem_cons_of_mem _ hn)
    exact ⟨x :: bs, by rw [List.map_cons, List.map_cons, e]⟩
end Go.Proofs.Ytpfojangcgffkaa

/- From the frame's readings to lists: integers. Own work. -/
namespace Go.Proofs.Ytpfojangcgffkaa
open Go.RowKit Go.ChangeShapes Go.WideShapes Go.ChangeAt
set_option linter.unusedVariables false
set_option linter.unusedSimpArgs false
section
variable {H : Type} {enc : TypeId × Value → H} {P : Program} {w : World} {base : Nat} {held : Bool}
theorem open_ints2 {t e : TypeId} {k : IntKind} {r : Reach} {b0 : Nat} {v : Value} {d : DataW H} {ps : List MemPlace} (ht : P.underlying t = some (.slice e)) (he : P.underlying e = some (.int k)) (hc : P.cellsOf e = 1)
    (hval : Value.okWide P w r b0 t v) (h : DataW.Trod enc P w base (fun _ => true) held t v d ps) :
    ∃ zs : List Int, Sl w v (zs.map (Value.int k)) ∧ ∀ n ∈ zs, (Lit.int k n).wf = true := by
  obtain ⟨a, len, cap, rfl⟩ := okWide_slice ht hval
  obtain ⟨fuel, hf⟩ := h
  have hrow : ∃ zs : List Int, (a = none ∧ len = 0 ∧ cap = 0 ∧ zs = []) ∨
      ∃ x, a = some x ∧ len ≤ cap ∧ cap ≤ maxLen ∧ zs.length = cap ∧ (∀ i, i < zs.length → w.cell? (x.add i) = some (.int k (zs.getD i 0))) ∧ ∀ n ∈ zs, (Lit.int k n).wf = true := by
    rcases open_ints ht he hc hf with ⟨hcs, _⟩ | ⟨x, l, c, zs, hcs, _, hl, hm, hz, _, hcell, hwz⟩
    · simp [Value.cells] at hcs
      obtain ⟨rfl, rfl, rfl⟩ := hcs
      exact ⟨[], .inl ⟨rfl, rfl, rfl, rfl⟩⟩
    · simp [Value.cells] at hcs
      obtain ⟨rfl, rfl, rfl⟩ := hcs
      exact ⟨zs, .inr ⟨_, rfl, hl, hm, by simpa using hz, hcell, hwz⟩⟩
  obtain ⟨zs, hz⟩ := hrow
  obtain ⟨h1, _, h2⟩ := sl_of_row hz
  exact ⟨zs.take len, h1, h2⟩
theorem trod_lt0 {t : TypeId} {v : Value} {d : DataW H} {ps : List MemPlace} {sp : Nat → Bool} (h : DataW.Trod enc P w 0 sp held t v d ps) : ∀ x ∈ ps, x.block < w.heap.size := by
  obtain ⟨m, hm⟩ := h; exact DataW.trod_lt m _ _ _ hm
end
end Go.Proofs.Ytpfojangcgffkaa

/- The bridge: what a call's arguments read as, told by predicates; contracts as statements of the frame. Own work. -/
namespace Go.Proofs.Ytpfojangcgffkaa
open Go.RowKit Go.ChangeShapes Go.WideShapes Go.ChangeAt
set_option linter.unusedVariables false
set_option linter.unusedSimpArgs false
/-- All cells of a world stay. -/
def phi (w : World) : Fz := fun b i => w.cell? ⟨b, i, none⟩
theorem Fn.run {P : Program} {f : FuncId} {As : List VP} {r : Value} (h : FnP P f As (Is r)) (w : World) (vs : List Value) (hv : Alls (phi w) As vs) : Calls P f vs.toArray w fun e w' => e = .returned r ∧ Below w.heap.size w w' := by
  refine (h (phi w) w vs hv ⟨fun _ _ _ h => h, by simp, List.Pairwise.nil⟩).mono ?_
  rintro e w' ⟨i, v, φ', rfl, h1, h2⟩
  have h1' : v = r := h1
  subst h1'
  exact ⟨rfl, Kpt.below (by simpa [names] using h2.kept)⟩
theorem choose_lt' {α : Type} [Inhabited α] {p : Nat → α → Prop} {n : Nat} (h : ∀ i, i < n → ∃ a, p i a) : ∃ f : Nat → α, ∀ i, i < n → p i (f i) :=
  Go.Deep.choose_lt h
def tU32 : Ty (BitVec 32) := ⟨1, fun n => [Is (.int .u32 (UV n))], fun _ => rfl⟩
def tU8 : Ty (BitVec 8) := ⟨1, fun n => [Is (.int .u8 (UV n))], fun _ => rfl⟩
def tBool : Ty Bool := ⟨1, fun b => [Is (.bool b)], fun _ => rfl⟩
def tSl {α : Type} (T : Ty α) : Ty (List α) := ⟨1, fun xs => [IsSl T xs], fun _ => rfl⟩
def I64ok (a : Int) : Prop := -9223372036854775808 ≤ a ∧ a ≤ 9223372036854775807
section
variable {H : Type} {enc : TypeId × Value → H} {P : Program} {w : World} {base : Nat} {sp : Nat → Bool} {held : Bool}
/-- The cells of a type are read as T tells. -/
def Rds {H : Type} (enc : TypeId × Value → H) (P : Program) (w : World) (base : Nat) (sp : Nat → Bool) (held : Bool) {α : Type} (t : TypeId) (T : Ty α) (R : α → Prop) : Prop :=
  ∀ (fuel : Nat) (cs : List Value) (x : DataW H × List MemPlace), DataW.trod enc P w base sp held fuel t cs = some x → ∃ a, Alls (phi w) (T.cells a) cs ∧ ones cs ∧ R a
theorem ones_app {us vs : List Value} (h : ones us) (k : ones vs) : ones (us ++ vs) := fun u hu => (List.mem_append.1 hu).elim (h u) (k u)
theorem ones_1 {v : Value} (h : v.oneCell' = true) : ones [v] := ones_cons h ones_nil
theorem rds_i64 {t : TypeId} (ht : P.underlying t = some (.int .i64)) : Rds enc P w base sp held t tI64 I64ok := by
  intro fuel cs x h
  obtain ⟨a, rfl, _, hw⟩ := DataW.trod_int ht h
  exact ⟨a, ⟨rfl, trivial⟩, ones_1 rfl, i64_of_wf hw⟩
theorem rds_u64 {t : TypeId} (ht : P.underlying t = some (.int .u64)) : Rds enc P w base sp held t tU64 (fun _ => True) := by
  intro fuel cs x h
  obtain ⟨a, rfl, _, hw⟩ := DataW.trod_int ht h
  obtain ⟨b, rfl⟩ := u64_of_wf hw
  exact ⟨b, ⟨rfl, trivial⟩, ones_1 rfl, trivial⟩
theorem rds_u32 {t : TypeId} (ht : P.underlying t = some (.int .u32)) : Rds enc P w base sp held t tU32 (fun _ => True) := by
  intro fuel cs x h
  obtain ⟨a, rfl, _, hw⟩ := DataW.trod_int ht h
  obtain ⟨b, rfl⟩ := u32_of_wf hw
  exact ⟨b, ⟨rfl, trivial⟩, ones_1 rfl, trivial⟩
theorem rds_u8 {t : TypeId} (ht : P.underlying t = some (.int .u8)) : Rds enc P w base sp held t tU8 (fun _ => True) := by
  intro fuel cs x h
  obtain ⟨a, rfl, _, hw⟩ := DataW.trod_int ht h
  obtain ⟨b, rfl⟩ := u8_of_wf hw
  exact ⟨b, ⟨rfl, trivial⟩, ones_1 rfl, trivial⟩
theorem rds_bool {t : TypeId} (ht : P.underlying t = some .bool) : Rds enc P w base sp held t tBool (fun _ => True) := by
  intro fuel cs x h
  obtain ⟨a, rfl, _⟩ := DataW.trod_bool ht h
  exact ⟨a, ⟨rfl, trivial⟩, ones_1 rfl, trivial⟩
theorem rds_slice {α : Type} {T : Ty α} {R : α → Prop} {t e : TypeId} (ht : P.underlying t = some (.slice e)) (hc : P.cellsOf e = T.size) (hs : Nat.blt 0 T.size = true) (he : Rds enc P w base sp held e T R) : Rds enc P w base sp held t (tSl T) (fun xs => ∀ a ∈ xs, R a) := by
  intro fuel cs x h
  have hs' : 0 < T.size := Nat.le_of_ble_eq_true hs
  rcases Go.Deep.open_slice ht h with ⟨rfl, _⟩ | ⟨a, len, cap, m, n, D, Pl, rfl, _, hl, hm, hmm, _, hx⟩
  · exact ⟨[], ⟨⟨none, 0, 0, rfl, rfl, Nat.le_refl _, Nat.zero_le _, .inl rfl⟩, trivial⟩, ones_1 rfl, fun a ha => absurd ha (List.not_mem_nil)⟩
  have hlm : len ≤ m := by rw [hmm]; split <;> omega
  rcases Nat.eq_zero_or_pos len with h0 | h0
  · subst h0
    exact ⟨[], ⟨⟨some a, 0, cap, rfl, rfl, Nat.zero_le _, hm, .inl rfl⟩, trivial⟩, ones_1 rfl, fun a ha => absurd ha (List.not_mem_nil)⟩
  have hspot : a.spot = none := by
    obtain ⟨cs', h1, h2⟩ := hx 0 (by omega)
    rw [hc] at h1
    obtain ⟨_, hlen, hcell⟩ := World.cells?_some h1
    have h3 := hcell 0 hs'
    rw [List.getElem?_eq_getElem (by omega)] at h3
    simpa [Addr.add] using World.cell?_spot h3
  have key : ∀ i, i < len → ∃ y : α, a.spot = none ∧ RefAt (phi w) a.block (a.off + i * T.size) (T.cells y) ∧ R y := fun i hi => by
    obtain ⟨cs', h1, h2⟩ := hx i (by omega)
    rw [hc] at h1
    obtain ⟨_, hlen, hcell⟩ := World.cells?_some h1
    obtain ⟨y, g1, g2, g3⟩ := he _ _ _ h2
    refine ⟨y, hspot, fun j A hA => ?_, g3⟩
    obtain ⟨u, k1, k2⟩ := g1.get hA
    refine ⟨u, ?_, k2, g2 u (List.mem_of_getElem? k1)⟩
    have hj : j < T.size := by
      have := (List.getElem?_eq_some_iff.1 hA).1
      rw [T.len] at this; exact this
    have h3 := hcell j hj
    rw [k1] at h3
    obtain ⟨b, o, q⟩ := a
    dsimp only at hspot
    subst hspot
    rw [addr_add, addr_add] at h3
    exact h3
  obtain ⟨y0, _, _⟩ := key 0 h0
  have : Inhabited α := ⟨y0⟩
  obtain ⟨A, hA⟩ := Go.Deep.choose_lt key
  obtain ⟨b, o, q⟩ := a
  dsimp only at hspot hA
  subst hspot
  refine ⟨(List.range len).map A, ⟨⟨some ⟨b, o, none⟩, len, cap, rfl, by simp, hl, hm, .inr ⟨b, o, rfl, fun k x hk => ?_⟩⟩, trivial⟩, ones_1 rfl, fun y hy => ?_⟩
  · have hlt : k < len := by
      have := (List.getElem?_eq_some_iff.1 hk).1
      simpa using this
    rw [List.getElem?_map, List.getElem?_range hlt] at hk
    simp only [Option.map_some, Option.some.injEq] at hk
    subst hk
    exact (hA k hlt).2.1
  · obtain ⟨i, hi, rfl⟩ := List.mem_map.1 hy
    exact (hA i (List.mem_range.1 hi)).2.2
/-- An argument of one cell. -/
theorem rds_arg1 {α : Type} {T : Ty α} {R : α → Prop} {t : TypeId} {v : Value} {d : DataW H} {ps : List MemPlace} {A : α → VP} (hT : ∀ a, T.cells a = [A a]) (he : Rds enc P w base sp held t T R) (hv : v.cells.toList = [v])
    (h : DataW.Trod enc P w base sp held t v d ps) : ∃ a, (A a).ok (phi w) v ∧ R a := by
  obtain ⟨fuel, hf⟩ := h
  obtain ⟨a, h1, _, h2⟩ := he _ _ _ hf
  rw [hv, hT] at h1
  exact ⟨a, h1.1, h2⟩
theorem rds_argS {α : Type} {T : Ty α} {R : α → Prop} {t : TypeId} {fs : Array Field} (ht : P.underlying t = some (.struct fs)) {r : Reach} {b0 : Nat} {v : Value} {d : DataW H} {ps : List MemPlace} (he : Rds enc P w base sp held t T R)
    (hval : Value.okWide P w r b0 t v) (h : DataW.Trod enc P w base sp held t v d ps) : ∃ a, (IsAgg (T.cells a)).ok (phi w) v ∧ R a := by
  obtain ⟨cs, rfl, _⟩ := okWide_struct ht hval
  obtain ⟨fuel, hf⟩ := h
  obtain ⟨a, h1, h2, h3⟩ := he _ _ _ hf
  exact ⟨a, ⟨_, rfl, h1, h2⟩, h3⟩
theorem rds_argSl {α : Type} {T : Ty α} {R : List α → Prop} {t e : TypeId} (ht : P.underlying t = some (.slice e)) {r : Reach} {b0 : Nat} {v : Value} {d : DataW H} {ps : List MemPlace} (he : Rds enc P w base sp held t (tSl T) R)
    (hval : Value.okWide P w r b0 t v) (h : DataW.Trod enc P w base sp held t v d ps) : ∃ xs, (IsSl T xs).ok (phi w) v ∧ R xs := by
  obtain ⟨a, len, cap, rfl⟩ := okWide_slice ht hval
  exact rds_arg1 (A := IsSl T) (fun _ => rfl) he rfl h
end
end Go.Proofs.Ytpfojangcgffkaa

/- Contracts that lean on what a package variable holds: a fact about it goes in. Own work. -/
namespace Go.Proofs.Ytpfojangcgffkaa
open Go.RowKit
set_option linter.unusedVariables false
set_option linter.unusedSimpArgs false
section
variable {P : Program} {c : Ctx} {A : Nat → Option VP} {L : List Item} {d : Option Tmp} {ty : TypeId} {pos : String} {af : Array Edge} {g : Option (Nat × Bool)}
@[reducible] def FnK (P : Program) (f : FuncId) (G : Item) (As : List VP) (R : VP) : Prop := Fn P f As [G] (fun _ : Unit => R) (fun _ => [])
theorem op_callK {v : Value} {B : VP} {f : FuncId} {xs : List Operand} {ts : Array TypeId} {As : List VP} {R : VP} (hc : ∀ (args : Array Value) (w : World), (callFunc f args).run P w = .ok (.enter f args) w)
    (hF : FnK P f (fact v B) As R) (ha : ArgsE A L xs As) (hG : fact v B ∈ L) : OpP P c ⟨d, .call { callee := .value (.func f), args := xs.toArray, argTypes := ts }, ty, pos, af, g⟩ A L R := by
  intro φ a w K Q hm he hk
  have hv := ha.alls (φ := φ) (a := a) fun x hx => he x (by simp [Op.operands, Call.operands, hx])
  unfold Oper.wp
  rw [run_enter hc]
  have hit := hm.mem.items _ hG
  refine (hF φ w _ hv ⟨hm.mem.base, fun it hi => by rw [List.mem_singleton] at hi; subst hi; exact hit, List.pairwise_singleton _ _⟩).mono ?_
  rintro e w' ⟨i, v', φ', rfl, h1, h2⟩
  exact hk φ' v' w' (by simpa [names, fact] using h2) h1
theorem FnK.run {v : Value} {B : VP} {f : FuncId} {As : List VP} {r : Value} (h : FnK P f (fact v B) As (Is r)) (w : World) (vs : List Value) (hB : B.ok (phi w) v) (hv : Alls (phi w) As vs) : Calls P f vs.toArray w fun e w' => e = .returned r ∧ Below w.heap.size w w' := by
  refine (h (phi w) w vs hv ⟨fun _ _ _ h => h, fun it hi => ?_, List.pairwise_singleton _ _⟩).mono ?_
  · rw [List.mem_singleton] at hi; subst hi; exact ⟨hB, fun b hb => by cases hb⟩
  · rintro e w' ⟨i, v, φ', rfl, h1, h2⟩
    have h1' : v = r := h1
    subst h1'
    exact ⟨rfl, Kpt.below (by simpa [names, fact] using h2.kept)⟩
end
end Go.Proofs.Ytpfojangcgffkaa

/- Contracts: pointers. Own work. -/
namespace Go.Proofs.Ytpfojangcgffkaa
open Go.RowKit
set_option linter.unusedVariables false
set_option linter.unusedSimpArgs false
set_option maxRecDepth 100000
-- pointer.inHeap: function 90
theorem inHeap_ok (l : Int) : FnP Try.prog 90 [Is (.int .i64 l)] (Is (.bool (heapB l))) := by
  refine FnP.enter Try.func90 Try.ntmps90 rfl rfl ?_
  intro c hX
  refine JC_seq ?_
  refine JC_region ?_
  refine JL_1 rfl (op_assign rfl) ?_
  refine JL_nil ?_
  refine JQ_then (JC_seq ?_)
  refine JC_region ?_
  refine JL_1 rfl (op_move rfl) ?_
  refine JL_1 rfl (op_geq (Ev.rfl' rfl) (Ev.rfl' rfl)) ?_
  refine JL_1 rfl (op_move rfl) ?_
  (first | refine JL_i0 rfl rfl rfl (fun hg => (by have hg0 := hg; (try simp at hg); first | exact op_moveE (Ev.sub rfl (SubL.iteT (by first | assumption | (simp; done) | (simp; omega) | (simp_all; done)) SubL.rfl')) | exact op_moveE (Ev.rfl' rfl))) ?_ | refine JL_i rfl rfl rfl (fun hp hg => (by have hpg := Bool.and_eq_true_iff.2 ⟨hp, hg⟩; have hg0 := hg; (try simp at hg); first | exact op_moveE (Ev.sub rfl (SubL.iteT (by first | assumption | (simp; done) | (simp; omega) | (simp_all; done)) SubL.rfl')) | exact op_moveE (Ev.rfl' rfl))) ?_)
  (first | refine JL_i0 rfl rfl rfl (fun hg => (by have hg0 := hg; (try simp at hg); exact op_lss evG evG)) ?_ | refine JL_i rfl rfl rfl (fun hp hg => (by have hpg := Bool.and_eq_true_iff.2 ⟨hp, hg⟩; have hg0 := hg; (try simp at hg); exact op_lss evG evG)) ?_)
  refine JL_1 rfl (op_and (Ev.rfl' rfl) rfl (fun h => by first | exact SubL.rfl' | exact SubL.iteT (by first | (rw [h]; rfl) | (simp_all; done)) SubL.rfl')) ?_
  refine JL_1 rfl (op_assign rfl) ?_
  refine JL_nil ?_
  refine JQ_then (JC_ret ?_)
  refine JQ_ret1 Try.results90 rfl () (SubL.eq ?_) (List.nil_sublist _)
  rfl
-- bodegaref19.heapLine: function 111
theorem inHeapR_ok (l : Int) : FnP Try.prog 111 [Is (.int .i64 l)] (Is (.bool (heapB l))) := by
  refine FnP.enter Try.func111 Try.ntmps111 rfl rfl ?_
  intro c hX
  refine JC_seq ?_
  refine JC_region ?_
  refine JL_1 rfl (op_assign rfl) ?_
  refine JL_nil ?_
  refine JQ_then (JC_seq ?_)
  refine JC_region ?_
  refine JL_1 rfl (op_move rfl) ?_
  refine JL_1 rfl (op_geq (Ev.rfl' rfl) (Ev.rfl' rfl)) ?_
  refine JL_1 rfl (op_move rfl) ?_
  (first | refine JL_i0 rfl rfl rfl (fun hg => (by have hg0 := hg; (try simp at hg); first | exact op_moveE (Ev.sub rfl (SubL.iteT (by first | assumption | (simp; done) | (simp; omega) | (simp_all; done)) SubL.rfl')) | exact op_moveE (Ev.rfl' rfl))) ?_ | refine JL_i rfl rfl rfl (fun hp hg => (by have hpg := Bool.and_eq_true_iff.2 ⟨hp, hg⟩; have hg0 := hg; (try simp at hg); first | exact op_moveE (Ev.sub rfl (SubL.iteT (by first | assumption | (simp; done) | (simp; omega) | (simp_all; done)) SubL.rfl')) | exact op_moveE (Ev.rfl' rfl))) ?_)
  (first | refine JL_i0 rfl rfl rfl (fun hg => (by have hg0 := hg; (try simp at hg); exact op_lss evG evG)) ?_ | refine JL_i rfl rfl rfl (fun hp hg => (by have hpg := Bool.and_eq_true_iff.2 ⟨hp, hg⟩; have hg0 := hg; (try simp at hg); exact op_lss evG evG)) ?_)
  refine JL_1 rfl (op_and (Ev.rfl' rfl) rfl (fun h => by first | exact SubL.rfl' | exact SubL.iteT (by first | (rw [h]; rfl) | (simp_all; done)) SubL.rfl')) ?_
  refine JL_1 rfl (op_assign rfl) ?_
  refine JL_nil ?_
  refine JQ_then (JC_ret ?_)
  refine JQ_ret1 Try.results111 rfl () (SubL.eq ?_) (List.nil_sublist _)
  rfl
-- pointer.Valid: function 72
theorem ValidP_ok (p : Pt) : FnP Try.prog 72 [IsPt p] (Is (.bool (validP p))) := by
  refine FnP.enter Try.func72 Try.ntmps72 rfl rfl ?_
  intro c hX
  refine JC_seq ?_
  refine JC_region ?_
  (refine JL_n rfl (op_box (Ev.rfl' rfl) cellsT) ?_; intro i1)
  refine JL_1 rfl (op_assign rfl) ?_
  refine JL_nil ?_
  refine JQ_then (JC_seq ?_)
  refine JC_region ?_
  refine JL_1 rfl (by first | exact op_fieldPtr (k := 0) (Ev.rfl' rfl) rfl rfl rfl rfl | exact op_fieldRefN (k := 0) (Ev.rfl' rfl) rfl rfl rfl rfl nrmT) ?_
  refine JL_1 rfl (by first | exact op_loadRef (Ev.rfl' rfl) rfl rfl rfl | exact op_loadPtr (Ev.rfl' rfl) memT (by rfl) (by rfl) (by rfl)) ?_
  refine JL_1 rfl (op_call Try.call90 (inHeap_ok _) ⟨evS, trivial⟩) ?_
  refine JL_1 rfl (op_move rfl) ?_
  (first | refine JL_i0 rfl rfl rfl (fun hg => (by have hg0 := hg; (try simp at hg); first | exact op_fieldPtr (k := 1) evG rfl rfl rfl rfl | exact op_fieldRefN (k := 1) evG rfl rfl rfl rfl nrmT)) ?_ | refine JL_i rfl rfl rfl (fun hp hg => (by have hpg := Bool.and_eq_true_iff.2 ⟨hp, hg⟩; have hg0 := hg; (try simp at hg); first | exact op_fieldPtr (k := 1) evG rfl rfl rfl rfl | exact op_fieldRefN (k := 1) evG rfl rfl rfl rfl nrmT)) ?_)
  (first | refine JL_i0 rfl rfl rfl (fun hg => (by have hg0 := hg; (try simp at hg); first | exact op_loadRef evG rfl rfl rfl | exact op_loadPtr evG memT (by rfl) (by rfl) (by rfl))) ?_ | refine JL_i rfl rfl rfl (fun hp hg => (by have hpg := Bool.and_eq_true_iff.2 ⟨hp, hg⟩; have hg0 := hg; (try simp at hg); first | exact op_loadRef evG rfl rfl rfl | exact op_loadPtr evG memT (by rfl) (by rfl) (by rfl))) ?_)
  (first | refine JL_i0 rfl rfl rfl (fun hg => (by have hg0 := hg; (try simp at hg); exact op_geq evG evG)) ?_ | refine JL_i rfl rfl rfl (fun hp hg => (by have hpg := Bool.and_eq_true_iff.2 ⟨hp, hg⟩; have hg0 := hg; (try simp at hg); exact op_geq evG evG)) ?_)
  refine JL_1 rfl (op_and (Ev.rfl' rfl) rfl (fun h => by first | exact SubL.rfl' | exact SubL.iteT (by first | (rw [h]; rfl) | (simp_all; done)) SubL.rfl')) ?_
  refine JL_1 rfl (op_move rfl) ?_
  (first | refine JL_i0 rfl rfl rfl (fun hg => (by have hg0 := hg; (try simp at hg); first | exact op_fieldPtr (k := 1) evG rfl rfl rfl rfl | exact op_fieldRefN (k := 1) evG rfl rfl rfl rfl nrmT)) ?_ | refine JL_i rfl rfl rfl (fun hp hg => (by have hpg := Bool.and_eq_true_iff.2 ⟨hp, hg⟩; have hg0 := hg; (try simp at hg); first | exact op_fieldPtr (k := 1) evG rfl rfl rfl rfl | exact op_fieldRefN (k := 1) evG rfl rfl rfl rfl nrmT)) ?_)
  (first | refine JL_i0 rfl rfl rfl (fun hg => (by have hg0 := hg; (try simp at hg); first | exact op_loadRef evG rfl rfl rfl | exact op_loadPtr evG memT (by rfl) (by rfl) (by rfl))) ?_ | refine JL_i rfl rfl rfl (fun hp hg => (by have hpg := Bool.and_eq_true_iff.2 ⟨hp, hg⟩; have hg0 := hg; (try simp at hg); first | exact op_loadRef evG rfl rfl rfl | exact op_loadPtr evG memT (by rfl) (by rfl) (by rfl))) ?_)
  (first | refine JL_i0 rfl rfl rfl (fun hg => (by have hg0 := hg; (try simp at hg); exact op_leq evG evG)) ?_ | refine JL_i rfl rfl rfl (fun hp hg => (by have hpg := Bool.and_eq_true_iff.2 ⟨hp, hg⟩; have hg0 := hg; (try simp at hg); exact op_leq evG evG)) ?_)
  refine JL_1 rfl (op_and (Ev.rfl' rfl) rfl (fun h => by first | exact SubL.rfl' | exact SubL.iteT (by first | (rw [h]; rfl) | (simp_all; done)) SubL.rfl')) ?_
  refine JL_1 rfl (op_assign rfl) ?_
  refine JL_nil ?_
  refine JQ_then (JC_ret ?_)
  refine JQ_ret1 Try.results72 rfl () (SubL.eq ?_) (List.nil_sublist _)
  rfl
-- bodegaref19.ValidPointer: function 70
theorem ValidPR_ok (p : Pt) : FnP Try.prog 70 [IsPt p] (Is (.bool (validP p))) := by
  refine FnP.enter Try.func70 Try.ntmps70 rfl rfl ?_
  intro c hX
  refine JC_seq ?_
  refine JC_region ?_
  (refine JL_n rfl (op_box (Ev.rfl' rfl) cellsT) ?_; intro i1)
  refine JL_1 rfl (op_assign rfl) ?_
  refine JL_nil ?_
  refine JQ_then (JC_seq ?_)
  refine JC_region ?_
  refine JL_1 rfl (by first | exact op_fieldPtr (k := 0) (Ev.rfl' rfl) rfl rfl rfl rfl | exact op_fieldRefN (k := 0) (Ev.rfl' rfl) rfl rfl rfl rfl nrmT) ?_
  refine JL_1 rfl (by first | exact op_loadRef (Ev.rfl' rfl) rfl rfl rfl | exact op_loadPtr (Ev.rfl' rfl) memT (by rfl) (by rfl) (by rfl)) ?_
  refine JL_1 rfl (op_call Try.call111 (inHeapR_ok _) ⟨evS, trivial⟩) ?_
  refine JL_1 rfl (op_move rfl) ?_
  (first | refine JL_i0 rfl rfl rfl (fun hg => (by have hg0 := hg; (try simp at hg); first | exact op_fieldPtr (k := 1) evG rfl rfl rfl rfl | exact op_fieldRefN (k := 1) evG rfl rfl rfl rfl nrmT)) ?_ | refine JL_i rfl rfl rfl (fun hp hg => (by have hpg := Bool.and_eq_true_iff.2 ⟨hp, hg⟩; have hg0 := hg; (try simp at hg); first | exact op_fieldPtr (k := 1) evG rfl rfl rfl rfl | exact op_fieldRefN (k := 1) evG rfl rfl rfl rfl nrmT)) ?_)
  (first | refine JL_i0 rfl rfl rfl (fun hg => (by have hg0 := hg; (try simp at hg); first | exact op_loadRef evG rfl rfl rfl | exact op_loadPtr evG memT (by rfl) (by rfl) (by rfl))) ?_ | refine JL_i rfl rfl rfl (fun hp hg => (by have hpg := Bool.and_eq_true_iff.2 ⟨hp, hg⟩; have hg0 := hg; (try simp at hg); first | exact op_loadRef evG rfl rfl rfl | exact op_loadPtr evG memT (by rfl) (by rfl) (by rfl))) ?_)
  (first | refine JL_i0 rfl rfl rfl (fun hg => (by have hg0 := hg; (try simp at hg); exact op_geq evG evG)) ?_ | refine JL_i rfl rfl rfl (fun hp hg => (by have hpg := Bool.and_eq_true_iff.2 ⟨hp, hg⟩; have hg0 := hg; (try simp at hg); exact op_geq evG evG)) ?_)
  refine JL_1 rfl (op_and (Ev.rfl' rfl) rfl (fun h => by first | exact SubL.rfl' | exact SubL.iteT (by first | (rw [h]; rfl) | (simp_all; done)) SubL.rfl')) ?_
  refine JL_1 rfl (op_move rfl) ?_
  (first | refine JL_i0 rfl rfl rfl (fun hg => (by have hg0 := hg; (try simp at hg); first | exact op_fieldPtr (k := 1) evG rfl rfl rfl rfl | exact op_fieldRefN (k := 1) evG rfl rfl rfl rfl nrmT)) ?_ | refine JL_i rfl rfl rfl (fun hp hg => (by have hpg := Bool.and_eq_true_iff.2 ⟨hp, hg⟩; have hg0 := hg; (try simp at hg); first | exact op_fieldPtr (k := 1) evG rfl rfl rfl rfl | exact op_fieldRefN (k := 1) evG rfl rfl rfl rfl nrmT)) ?_)
  (first | refine JL_i0 rfl rfl rfl (fun hg => (by have hg0 := hg; (try simp at hg); first | exact op_loadRef evG rfl rfl rfl | exact op_loadPtr evG memT (by rfl) (by rfl) (by rfl))) ?_ | refine JL_i rfl rfl rfl (fun hp hg => (by have hpg := Bool.and_eq_true_iff.2 ⟨hp, hg⟩; have hg0 := hg; (try simp at hg); first | exact op_loadRef evG rfl rfl rfl | exact op_loadPtr evG memT (by rfl) (by rfl) (by rfl))) ?_)
  (first | refine JL_i0 rfl rfl rfl (fun hg => (by have hg0 := hg; (try simp at hg); exact op_leq evG evG)) ?_ | refine JL_i rfl rfl rfl (fun hp hg => (by have hpg := Bool.and_eq_true_iff.2 ⟨hp, hg⟩; have hg0 := hg; (try simp at hg); exact op_leq evG evG)) ?_)
  refine JL_1 rfl (op_and (Ev.rfl' rfl) rfl (fun h => by first | exact SubL.rfl' | exact SubL.iteT (by first | (rw [h]; rfl) | (simp_all; done)) SubL.rfl')) ?_
  refine JL_1 rfl (op_assign rfl) ?_
  refine JL_nil ?_
  refine JQ_then (JC_ret ?_)
  refine JQ_ret1 Try.results70 rfl () (SubL.eq ?_) (List.nil_sublist _)
  rfl
-- pointer.Pack: function 73
theorem Pack_ok (p : Pt) : FnP Try.prog 73 [IsPt p] (Is (.int .u32 (UV (packP p)))) := by
  refine FnP.enter Try.func73 Try.ntmps73 rfl rfl ?_
  intro c hX
  refine JC_seq ?_
  refine JC_region ?_
  (refine JL_n rfl (op_box (Ev.rfl' rfl) cellsT) ?_; intro i1)
  refine JL_1 rfl (op_assign rfl) ?_
  refine JL_nil ?_
  refine JQ_then (JC_seq (JC_seq ?_))
  refine JC_region ?_
  refine JL_1 rfl (by first | exact op_loadRefsN (n := 2) (Ev.rfl' rfl) rfl rfl rfl (by rfl) nrmT | exact op_loadPtrsN (n := 2) (Ev.rfl' rfl) memT (by rfl) (by rfl) (by rfl) (by rfl) nrmT) ?_
  refine JL_1 rfl (op_call Try.call72 (ValidP_ok _) ⟨evS, trivial⟩) ?_
  refine JL_1 rfl (op_not (Ev.rfl' rfl)) ?_
  refine JL_nil ?_
  refine JQ_then ?_
  refine JC_cond (Ev.rfl' rfl) (fun h1 => ?_) (fun h1 => ?_)
  · refine JC_seq ?_
    refine JC_region ?_
    refine JL_1 rfl (op_assign rfl) ?_
    refine JL_nil ?_
    refine JQ_then (JC_ret (JQ_then_ret ?_))
    refine JQ_ret1 Try.results73 rfl () (SubL.eq ?_) (List.nil_sublist _)
    rw [pack_no (by simpa using h1)]; rfl
  refine JC_skip (JQ_then (JC_seq ?_))
  refine JC_region ?_
  refine JL_1 rfl (by first | exact op_fieldPtr (k := 1) (Ev.rfl' rfl) rfl rfl rfl rfl | exact op_fieldRefN (k := 1) (Ev.rfl' rfl) rfl rfl rfl rfl nrmT) ?_
  refine JL_1 rfl (by first | exact op_loadRef (Ev.rfl' rfl) rfl rfl rfl | exact op_loadPtr (Ev.rfl' rfl) memT (by rfl) (by rfl) (by rfl)) ?_
  refine JL_1 rfl (op_conv (Ev.rfl' rfl) rfl rfl convT) ?_
  refine JL_1 rfl (by first | exact op_shlU32 (k := 8) ev32 (Ev.rfl' rfl) (by first | omega | exact UV_nonneg _) idxT | exact op_shl (Ev.rfl' rfl) (Ev.rfl' rfl) (by first | omega | exact UV_nonneg _) rfl) ?_
  refine JL_1 rfl (by first | exact op_fieldPtr (k := 0) (Ev.rfl' rfl) rfl rfl rfl rfl | exact op_fieldRefN (k := 0) (Ev.rfl' rfl) rfl rfl rfl rfl nrmT) ?_
  refine JL_1 rfl (by first | exact op_loadRef (Ev.rfl' rfl) rfl rfl rfl | exact op_loadPtr (Ev.rfl' rfl) memT (by rfl) (by rfl) (by rfl)) ?_
  refine JL_1 rfl (op_conv (Ev.rfl' rfl) rfl rfl convT) ?_
  refine JL_1 rfl (by first | exact op_bits ev32 ev32 (by simp) (or_u32 _ _) | exact op_bits (Ev.rfl' rfl) (Ev.rfl' rfl) (by simp) rfl) ?_
  refine JL_1 rfl (op_assign rfl) ?_
  refine JL_nil ?_
  refine JQ_then (JC_ret ?_)
  refine JQ_ret1 Try.results73 rfl () (SubL.eq ?_) (List.nil_sublist _)
  rw [← pack_or (by simpa using h1)]
-- bodegaref19.Pack: function 74
theorem PackR_ok (p : Pt) : FnP Try.prog 74 [IsPt p] (Is (.int .u32 (UV (packP p)))) := by
  refine FnP.enter Try.func74 Try.ntmps74 rfl rfl ?_
  intro c hX
  refine JC_seq ?_
  refine JC_region ?_
  (refine JL_n rfl (op_box (Ev.rfl' rfl) cellsT) ?_; intro i1)
  refine JL_1 rfl (op_assign rfl) ?_
  refine JL_nil ?_
  refine JQ_then (JC_seq (JC_seq ?_))
  refine JC_region ?_
  refine JL_1 rfl (by first | exact op_loadRefsN (n := 2) (Ev.rfl' rfl) rfl rfl rfl (by rfl) nrmT | exact op_loadPtrsN (n := 2) (Ev.rfl' rfl) memT (by rfl) (by rfl) (by rfl) (by rfl) nrmT) ?_
  refine JL_1 rfl (op_call Try.call70 (ValidPR_ok _) ⟨evS, trivial⟩) ?_
  refine JL_1 rfl (op_not (Ev.rfl' rfl)) ?_
  refine JL_nil ?_
  refine JQ_then ?_
  refine JC_cond (Ev.rfl' rfl) (fun h1 => ?_) (fun h1 => ?_)
  · refine JC_seq ?_
    refine JC_region ?_
    refine JL_1 rfl (op_assign rfl) ?_
    refine JL_nil ?_
    refine JQ_then (JC_ret (JQ_then_ret ?_))
    refine JQ_ret1 Try.results74 rfl () (SubL.eq ?_) (List.nil_sublist _)
    rw [pack_no (by simpa using h1)]; rfl
  refine JC_skip (JQ_then (JC_seq ?_))
  refine JC_region ?_
  refine JL_1 rfl (by first | exact op_fieldPtr (k := 0) (Ev.rfl' rfl) rfl rfl rfl rfl | exact op_fieldRefN (k := 0) (Ev.rfl' rfl) rfl rfl rfl rfl nrmT) ?_
  refine JL_1 rfl (by first | exact op_loadRef (Ev.rfl' rfl) rfl rfl rfl | exact op_loadPtr (Ev.rfl' rfl) memT (by rfl) (by rfl) (by rfl)) ?_
  refine JL_1 rfl (op_conv (Ev.rfl' rfl) rfl rfl convT) ?_
  refine JL_1 rfl (by first | exact op_fieldPtr (k := 1) (Ev.rfl' rfl) rfl rfl rfl rfl | exact op_fieldRefN (k := 1) (Ev.rfl' rfl) rfl rfl rfl rfl nrmT) ?_
  refine JL_1 rfl (by first | exact op_loadRef (Ev.rfl' rfl) rfl rfl rfl | exact op_loadPtr (Ev.rfl' rfl) memT (by rfl) (by rfl) (by rfl)) ?_
  refine JL_1 rfl (op_conv (Ev.rfl' rfl) rfl rfl convT) ?_
  refine JL_1 rfl (by first | exact op_binU ev32 ev32 (mul_u32 _ _ _) | exact op_mul (Ev.rfl' rfl) (Ev.rfl' rfl) wrapT) ?_
  refine JL_1 rfl (by first | exact op_binU ev32 ev32 (add_u32 _ _ _) | exact op_add (Ev.rfl' rfl) (Ev.rfl' rfl) wrapT) ?_
  refine JL_1 rfl (op_assign rfl) ?_
  refine JL_nil ?_
  refine JQ_then (JC_ret ?_)
  refine JQ_ret1 Try.results74 rfl () (SubL.eq ?_) (List.nil_sublist _)
  rw [← pack_add (by simpa using h1)]; rfl
-- pointer.Unpack: function 110
theorem Unpack_ok (x : BitVec 32) : FnP Try.prog 110 [Is (.int .u32 (UV x))] (IsPt (unpackP x)) := by
  refine FnP.enter Try.func110 Try.ntmps110 rfl rfl ?_
  intro c hX
  refine JC_seq ?_
  refine JC_region ?_
  (refine JL_n rfl (op_allocN rfl nrmT rfl) ?_; intro i2)
  refine JL_nil ?_
  refine JQ_then (JC_seq ?_)
  refine JC_region ?_
  refine JL_1 rfl (op_move rfl) ?_
  refine JL_1 rfl (by first | exact op_bits ev32 ev32 (by simp) (and_u32 _ _) | exact op_bits (Ev.rfl' rfl) (Ev.rfl' rfl) (by simp) rfl) ?_
  refine JL_1 rfl (op_conv (Ev.rfl' rfl) rfl rfl convT) ?_
  refine JL_1 rfl (op_move rfl) ?_
  refine JL_1 rfl (by first | exact op_shrU32 (k := 8) ev32 (Ev.rfl' rfl) (by first | omega | exact UV_nonneg _) idxT | exact op_shr (Ev.rfl' rfl) (Ev.rfl' rfl) (by first | omega | exact UV_nonneg _) rfl) ?_
  refine JL_1 rfl (op_conv (Ev.rfl' rfl) rfl rfl convT) ?_
  refine JL_1 rfl (op_buildN (qs := [(0, _), (1, _)]) rfl rfl rfl rfl ⟨⟨rfl, _, (Ev.rfl' rfl), cellsT⟩, ⟨⟨rfl, _, (Ev.rfl' rfl), cellsT⟩, trivial⟩⟩ (by rfl) nrmT) ?_
  refine JL_s0 (op_storeN (Ev.rfl' rfl) (Ev.rfl' rfl) cellsT replT nrmT (by rfl) (by rfl) (by rfl)) ?_
  refine JL_nil ?_
  refine JQ_then (JC_ret ?_)
  rw [unpack_bits]
  exact JQ_ret (Bs := [IsPt ⟨UV (x &&& BitVec.ofInt 32 255), UV (x >>> 8)⟩]) Try.results110 ⟨⟨_, _, _, _, rfl, memT, rfl, .inr ⟨rfl, _, rfl, rfl, subT⟩⟩, trivial⟩ () SubL.rfl' (List.nil_sublist _)
-- bodegaref19.Unpack: function 69
theorem UnpackR_ok (x : BitVec 32) : FnP Try.prog 69 [Is (.int .u32 (UV x))] (IsPt (unpackP x)) := by
  refine FnP.enter Try.func69 Try.ntmps69 rfl rfl ?_
  intro c hX
  refine JC_seq ?_
  refine JC_region ?_
  (refine JL_n rfl (op_allocN rfl nrmT rfl) ?_; intro i2)
  refine JL_nil ?_
  refine JQ_then (JC_seq ?_)
  refine JC_region ?_
  refine JL_1 rfl (op_move rfl) ?_
  refine JL_1 rfl (op_rem (Ev.rfl' rfl) (Ev.rfl' rfl) (by omega) rfl) ?_
  refine JL_1 rfl (op_conv (Ev.rfl' rfl) rfl rfl convT) ?_
  refine JL_1 rfl (op_move rfl) ?_
  refine JL_1 rfl (op_quo (Ev.rfl' rfl) (Ev.rfl' rfl) (by omega) wrapT) ?_
  refine JL_1 rfl (op_conv (Ev.rfl' rfl) rfl rfl convT) ?_
  refine JL_1 rfl (op_buildN (qs := [(0, _), (1, _)]) rfl rfl rfl rfl ⟨⟨rfl, _, (Ev.rfl' rfl), cellsT⟩, ⟨⟨rfl, _, (Ev.rfl' rfl), cellsT⟩, trivial⟩⟩ (by rfl) nrmT) ?_
  refine JL_s0 (op_storeN (Ev.rfl' rfl) (Ev.rfl' rfl) cellsT replT nrmT (by rfl) (by rfl) (by rfl)) ?_
  refine JL_nil ?_
  refine JQ_then (JC_ret ?_)
  rw [unpack_int]
  exact JQ_ret (Bs := [IsPt ⟨IntKind.i64.wrap ((UV x).tmod 256), IntKind.i64.wrap (IntKind.u32.wrap ((UV x).tdiv 256))⟩]) Try.results69 ⟨⟨_, _, _, _, rfl, memT, rfl, .inr ⟨rfl, _, rfl, rfl, subT⟩⟩, trivial⟩ () SubL.rfl' (List.nil_sublist _)
end Go.Proofs.Ytpfojangcgffkaa

/- Plain laws of sorting in place: what is permuted, what ascends; swaps, rotations, merges. Own work. -/
namespace Go.Proofs.Ytpfojangcgffkaa
set_option linter.unusedVariables false
set_option linter.unusedSimpArgs false
section
variable {α : Type}
/-- The places from a to b in another order; all else as it was. -/
structure PI (a b : Nat) (xs ys : List α) : Prop where
  len : ys.length = xs.length
  out : ∀ i, i < a ∨ b ≤ i → ys[i]? = xs[i]?
  perm : ys.Perm xs
variable {a b : Nat} {xs ys zs : List α}
theorem PI.rfl' : PI a b xs xs := ⟨rfl, fun _ _ => rfl, List.Perm.refl _⟩
theorem PI.tr (h : PI a b xs ys) (k : PI a b ys zs) : PI a b xs zs := ⟨k.len.trans h.len, fun i hi => (k.out i hi).trans (h.out i hi), k.perm.trans h.perm⟩
theorem PI.wide {a' b' : Nat} (h : PI a b xs ys) (ha : a' ≤ a) (hb : b ≤ b') : PI a' b' xs ys := ⟨h.len, fun i hi => h.out i (by omega), h.perm⟩
theorem PI.mid (h : PI a b xs ys) (hab : a ≤ b) : ((ys.take b).drop a).Perm ((xs.take b).drop a) := by
  have e1 : ys.take a = xs.take a := by
    apply List.ext_getElem?
    intro i
    rw [List.getElem?_take, List.getElem?_take]
    split
    · exact h.out i (.inl (by assumption))
    · rfl
  have e2 : ys.drop b = xs.drop b := by
    apply List.ext_getElem?
    intro i
    rw [List.getElem?_drop, List.getElem?_drop]
    exact h.out _ (.inr (by omega))
  have s : ∀ l : List α, l = l.take a ++ ((l.take b).drop a ++ l.drop b) := fun l => by
    conv => lhs; rw [← List.take_append_drop b l]
    rw [← List.append_assoc]
    congr 1
    conv => lhs; rw [← List.take_append_drop a (l.take b)]
    rw [List.take_take, Nat.min_eq_left hab]
  have hp := h.perm
  rw [s ys, s xs, e1, e2] at hp
  exact (List.perm_append_right_iff _).1 ((List.perm_append_left_iff _).1 hp)
/-- What lies there now lay there before. -/
theorem PI.mem (h : PI a b xs ys) {p : Nat} {y : α} (h1 : a ≤ p) (h2 : p < b) (hy : ys[p]? = some y) : ∃ q, a ≤ q ∧ q < b ∧ xs[q]? = some y := by
  have hm : y ∈ (ys.take b).drop a := by
    refine List.mem_of_getElem? (i := p - a) ?_
    rw [List.getElem?_drop, List.getElem?_take, if_pos (by omega), show a + (p - a) = p by omega]; exact hy
  have hm2 := (h.mid (by omega)).mem_iff.1 hm
  obtain ⟨i, hi⟩ := List.getElem?_of_mem hm2
  rw [List.getElem?_drop, List.getElem?_take] at hi
  split at hi
  · exact ⟨a + i, by omega, by assumption, hi⟩
  · cases hi
theorem sw_get {i j : Nat} {x y : α} (hx : xs[i]? = some x) (hy : xs[j]? = some y) (k : Nat) : ((xs.set i y).set j x)[k]? = if k = j then some x else if k = i then some y else xs[k]? := by
  have hi := (List.getElem?_eq_some_iff.1 hx).1
  have hj := (List.getElem?_eq_some_iff.1 hy).1
  rw [List.getElem?_set, List.getElem?_set]
  by_cases h1 : j = k
  · subst h1; simp [hj]
  · rw [if_neg h1, if_neg (Ne.symm h1)]
    by_cases h2 : i = k
    · subst h2; simp [hi]
    · rw [if_neg h2, if_neg (Ne.symm h2)]
theorem sw_PI {i j : Nat} {x y : α} (hx : xs[i]? = some x) (hy : xs[j]? = some y) (hi : a ≤ i ∧ i < b) (hj : a ≤ j ∧ j < b) : PI a b xs ((xs.set i y).set j x) := by
  have li := (List.getElem?_eq_some_iff.1 hx).1
  have lj := (List.getElem?_eq_some_iff.1 hy).1
  refine ⟨by simp, fun k hk => ?_, ?_⟩
  · rw [sw_get hx hy, if_neg (by omega), if_neg (by omega)]
  · have hx' : xs[i] = x := (List.getElem?_eq_some_iff.1 hx).2
    have hy' : xs[j] = y := (List.getElem?_eq_some_iff.1 hy).2
    have := List.set_set_perm li lj
    rw [hx', hy'] at this
    exact this
variable {key : α → Int}
/-- From a to b the keys do not fall. -/
def Srt (key : α → Int) (a b : Nat) (xs : List α) : Prop := ∀ i j x y, a ≤ i → i < j → j < b → xs[i]? = some x → xs[j]? = some y → key x ≤ key y
theorem Srt.sub {a' b' : Nat} (h : Srt key a b xs) (ha : a ≤ a') (hb : b' ≤ b) : Srt key a' b' xs := fun i j x y h1 h2 h3 => h i j x y (by omega) h2 (by omega)
theorem Srt.one (h : b ≤ a + 1) : Srt key a b xs := fun i j x y h1 h2 h3 => by omega
theorem Srt.same (h : Srt key a b xs) (he : ∀ i, a ≤ i → i < b → ys[i]? = xs[i]?) : Srt key a b ys := fun i j x y h1 h2 h3 hx hy =>
  h i j x y h1 h2 h3 (by rw [← he i h1 (by omega)]; exact hx) (by rw [← he j (by omega) h3]; exact hy)
theorem Srt.le (h : Srt key a b xs) {i j : Nat} {x y : α} (h1 : a ≤ i) (h2 : i ≤ j) (h3 : j < b) (hx : xs[i]? = some x) (hy : xs[j]? = some y) : key x ≤ key y := by
  rcases Nat.lt_or_ge i j with hl | hl
  · exact h i j x y h1 hl h3 hx hy
  · have : i = j := by omega
    subst this
    rw [hx] at hy; cases hy; exact Int.le_refl _
/-- All but what lies at j ascends; what lies behind j is no less than it. -/
structure Flt (key : α → Int) (a i j : Nat) (zs : List α) : Prop where
  rest : ∀ p q x y, a ≤ p → p < q → q ≤ i → p ≠ j → q ≠ j → zs[p]? = some x → zs[q]? = some y → key x ≤ key y
  up : ∀ q x y, j < q → q ≤ i → zs[j]? = some x → zs[q]? = some y → key x ≤ key y
theorem Flt.start {i : Nat} (h : Srt key a i zs) : Flt key a i i zs := ⟨fun p q x y h1 h2 h3 h4 h5 hx hy => h p q x y h1 h2 (by omega) hx hy, fun q x y h1 h2 => by omega⟩
theorem Flt.step {i j : Nat} {x y : α} (h : Flt key a i j zs) (hj : a < j) (hji : j ≤ i) (hx : zs[j]? = some x) (hy : zs[j - 1]? = some y) (hlt : key x < key y) : Flt key a i (j - 1) ((zs.set j y).set (j - 1) x) := by
  have hg := sw_get hx hy
  refine ⟨fun p q u v h1 h2 h3 h4 h5 hu hv => ?_, fun q u v h1 h2 hu hv => ?_⟩
  · rw [hg] at hu hv
    rw [if_neg h4] at hu
    rw [if_neg h5] at hv
    by_cases hp : p = j
    · rw [if_pos hp] at hu; cases hu
      rw [if_neg (by omega)] at hv
      exact h.rest (j - 1) q y v (by omega) (by omega) h3 (by omega) (by omega) hy hv
    · rw [if_neg hp] at hu
      by_cases hq : q = j
      · rw [if_pos hq] at hv; cases hv
        exact h.rest p (j - 1) u y h1 (by omega) (by omega) hp (by omega) hu hy
      · rw [if_neg hq] at hv
        exact h.rest p q u v h1 h2 h3 hp hq hu hv
  · rw [hg] at hu hv
    rw [if_pos rfl] at hu; cases hu
    rw [if_neg (by omega)] at hv
    by_cases hq : q = j
    · rw [if_pos hq] at hv; cases hv; omega
    · rw [if_neg hq] at hv
      exact h.up q x v (by omega) h2 hx hv
theorem Flt.done {i j : Nat} (h : Flt key a i j zs) (hji : j ≤ i) (he : j = a ∨ (a < j ∧ ∀ x y, zs[j]? = some x → zs[j - 1]? = some y → key y ≤ key x)) : Srt key a (i + 1) zs := by
  intro p q u v h1 h2 h3 hu hv
  by_cases hp : p = j
  · subst hp; exact h.up q u v h2 (by omega) hu hv
  · by_cases hq : q = j
    · subst hq
      rcases he with he | ⟨hlt, he⟩
      · omega
      · have hl := (List.getElem?_eq_some_iff.1 hv).1
        obtain ⟨y, hy⟩ : ∃ y, zs[q - 1]? = some y := ⟨zs[q - 1], List.getElem?_eq_getElem (by omega)⟩
        have h4 := he v y hv hy
        by_cases hpq : p = q - 1
        · subst hpq; rw [hu] at hy; cases hy; exact h4
        · exact Int.le_trans (h.rest p (q - 1) u y h1 (by omega) (by omega) hp (by omega) hu hy) h4
    · exact h.rest p q u v h1 h2 (by omega) hp hq hu hv
/-- Two ranges of n places have changed theirs. -/
def swF (xs : List α) (a b n k : Nat) : Option α := if a ≤ k ∧ k < a + n then xs[b + (k - a)]? else if b ≤ k ∧ k < b + n then xs[a + (k - b)]? else xs[k]?
theorem swF_step {n : Nat} {x y : α} (hab : a + n < b) (hz : ∀ k, zs[k]? = swF xs a b n k) (hx : zs[a + n]? = some x) (hy : zs[b + n]? = some y) (k : Nat) : ((zs.set (a + n) y).set (b + n) x)[k]? = swF xs a b (n + 1) k := by
  rw [sw_get hx hy]
  have h1 := hz (a + n)
  have h2 := hz (b + n)
  rw [hx] at h1
  rw [hy] at h2
  unfold swF at h1 h2
  rw [if_neg (by omega), if_neg (by omega)] at h1
  rw [if_neg (by omega), if_neg (by omega)] at h2
  by_cases e1 : k = b + n
  · subst e1
    rw [if_pos rfl, h1]
    unfold swF
    rw [if_neg (by omega), if_pos (by omega)]
    congr 1; omega
  · rw [if_neg e1]
    by_cases e2 : k = a + n
    · subst e2
      rw [if_pos rfl, h2]
      unfold swF
      rw [if_pos (by omega)]
      congr 1; omega
    · rw [if_neg e2, hz]
      unfold swF
      by_cases e3 : a ≤ k ∧ k < a + n
      · rw [if_pos e3, if_pos (by omega)]
      · rw [if_neg e3, if_neg (c := a ≤ k ∧ k < a + (n + 1)) (by omega)]
        by_cases e4 : b ≤ k ∧ k < b + n
        · rw [if_pos e4, if_pos (by omega)]
        · rw [if_neg e4, if_neg (by omega)]
/-- The places from a to m and those from m to b, turned round. -/
def rotF (f : Nat → Option α) (a m b k : Nat) : Option α := if a ≤ k ∧ k < a + (b - m) then f (m + (k - a)) else if a + (b - m) ≤ k ∧ k < b then f (k - (b - m)) else f k
theorem rot_left {m i j : Nat} {f g : Nat → Option α} (hi : i ≤ m) (h0 : 0 < j) (hij : j < i) (hg : ∀ k, g k = if m - i ≤ k ∧ k < m - i + j then f (m + (k - (m - i))) else if m ≤ k ∧ k < m + j then f (m - i + (k - m)) else f k) (k : Nat) :
    rotF g (m - (i - j)) m (m + j) k = rotF f (m - i) m (m + j) k := by
  unfold rotF
  rw [show m + j - m = j by omega]
  by_cases h1 : m - i ≤ k ∧ k < m - i + j
  · rw [if_neg (by omega), if_neg (by omega), if_pos h1, hg, if_pos h1]
  · rw [if_neg (c := m - i ≤ k ∧ k < m - i + j) h1]
    by_cases h2 : m - i + j ≤ k ∧ k < m + j
    · rw [if_pos (c := m - i + j ≤ k ∧ k < m + j) h2]
      by_cases h3 : m - (i - j) ≤ k ∧ k < m - (i - j) + j
      · rw [if_pos h3, hg, if_neg (by omega), if_pos (by omega)]
        congr 1; omega
      · rw [if_neg h3, if_pos (by omega), hg, if_neg (by omega), if_neg (by omega)]
    · rw [if_neg h2, if_neg (by omega), if_neg (by omega), hg, if_neg h1, if_neg (by omega)]
theorem rot_right {m i j : Nat} {f g : Nat → Option α} (hi : i ≤ m) (h0 : 0 < i) (hij : i < j) (hg : ∀ k, g k = if m - i ≤ k ∧ k < m - i + i then f (m + j - i + (k - (m - i))) else if m + j - i ≤ k ∧ k < m + j - i + i then f (m - i + (k - (m + j - i))) else f k) (k : Nat) :
    rotF g (m - i) m (m + (j - i)) k = rotF f (m - i) m (m + j) k := by
  unfold rotF
  rw [show m + j - m = j by omega, show m + (j - i) - m = j - i by omega]
  by_cases h1 : m - i ≤ k ∧ k < m - i + (j - i)
  · rw [if_pos h1, if_pos (by omega), hg]
    by_cases h2 : m ≤ m + (k - (m - i)) ∧ m + (k - (m - i)) < m + j - i
    · rw [if_neg (by omega), if_neg (by omega)]
    · omega
  · rw [if_neg (c := m - i ≤ k ∧ k < m - i + (j - i)) h1]
    by_cases h2 : m - i + (j - i) ≤ k ∧ k < m + (j - i)
    · rw [if_pos (c := m - i + (j - i) ≤ k ∧ k < m + (j - i)) h2, hg, if_pos (by omega), if_pos (by omega)]
      congr 1; omega
    · rw [if_neg (c := m - i + (j - i) ≤ k ∧ k < m + (j - i)) h2, hg]
      by_cases h3 : k < m - i
      · rw [if_neg (by omega), if_neg (by omega), if_neg (by omega), if_neg (by omega)]
      · by_cases h4 : k < m + j
        · rw [if_neg (c := m - i ≤ k ∧ k < m - i + i) (by omega), if_pos (c := m + j - i ≤ k ∧ k < m + j - i + i) (by omega), if_neg (by omega), if_pos (by omega)]
          congr 1; omega
        · rw [if_neg (by omega), if_neg (by omega), if_neg (by omega), if_neg (by omega)]
theorem rot_even {m i : Nat} {f g : Nat → Option α} (hi : i ≤ m) (hg : ∀ k, g k = if m - i ≤ k ∧ k < m - i + i then f (m + (k - (m - i))) else if m ≤ k ∧ k < m + i then f (m - i + (k - m)) else f k) (k : Nat) :
    g k = rotF f (m - i) m (m + i) k := by
  unfold rotF
  rw [show m + i - m = i by omega, hg]
  by_cases h1 : m - i ≤ k ∧ k < m - i + i
  · rw [if_pos h1, if_pos h1]
  · rw [if_neg h1, if_neg h1]
    by_cases h2 : m ≤ k ∧ k < m + i
    · rw [if_pos h2, if_pos (by omega)]
      congr 1; omega
    · rw [if_neg h2, if_neg (by omega)]
theorem rotF_none {m : Nat} {f : Nat → Option α} (h : m = a ∨ m = b) (ham : a ≤ m) (hmb : m ≤ b) (k : Nat) : rotF f a m b k = f k := by
  unfold rotF
  rcases h with rfl | rfl
  · by_cases h1 : m ≤ k ∧ k < m + (b - m)
    · rw [if_pos h1]; congr 1; omega
    · rw [if_neg h1, if_neg (by omega)]
  · rw [if_neg (by omega)]
    by_cases h2 : a + (m - m) ≤ k ∧ k < m
    · rw [if_pos h2]; congr 1; omega
    · rw [if_neg h2]
end
/-! ### The merge -/
section
variable {α : Type} {key : α → Int} {a m b st mid en : Nat} {xs ys zs : List α}
/-- All that lies before mid is no more than what lies behind. -/
def Crs (key : α → Int) (a mid b : Nat) (xs : List α) : Prop := ∀ p q x y, a ≤ p → p < mid → mid ≤ q → q < b → xs[p]? = some x → xs[q]? = some y → key x ≤ key y
theorem Crs.join (h1 : Srt key a mid xs) (h2 : Srt key mid b xs) (h : Crs key a mid b xs) : Srt key a b xs := fun i j x y e1 e2 e3 hx hy => by
  by_cases hi : i < mid
  · by_cases hj : j < mid
    · exact h1 i j x y e1 e2 hj hx hy
    · exact h i j x y e1 hi (by omega) e3 hx hy
  · exact h2 i j x y (by omega) e2 e3 hx hy
theorem Crs.left (h : Crs key a mid b xs) (hp : PI a mid xs ys) : Crs key a mid b ys := fun p q x y e1 e2 e3 e4 hx hy => by
  obtain ⟨p', f1, f2, f3⟩ := hp.mem e1 e2 hx
  exact h p' q x y f1 f2 e3 e4 f3 (by rw [← hp.out q (.inr e3)]; exact hy)
theorem Crs.right (h : Crs key a mid b xs) (hp : PI mid b xs ys) : Crs key a mid b ys := fun p q x y e1 e2 e3 e4 hx hy => by
  obtain ⟨q', f1, f2, f3⟩ := hp.mem e3 e4 hy
  exact h p q' x y e1 e2 f1 f2 (by rw [← hp.out p (.inl e2)]; exact hx) f3
/-- What the rotation of a merge leaves. -/
theorem merge_rot (hlen : b ≤ xs.length) (h1 : Srt key a m xs) (h2 : Srt key m b xs) (e0 : a ≤ st) (e1 : st ≤ m) (e2 : m ≤ en) (e3 : en ≤ b) (e4 : mid + m = st + en) (he1 : st ≤ mid)
    (c1 : st = a ∨ en = b ∨ ∀ x y, xs[st - 1]? = some x → xs[en]? = some y → key x ≤ key y) (c2 : st = m ∨ en = m ∨ ∀ x y, xs[en - 1]? = some x → xs[st]? = some y → key x ≤ key y)
    (hr : ∀ k, ys[k]? = rotF (fun k => xs[k]?) st m en k) : Srt key a st ys ∧ Srt key st mid ys ∧ Srt key mid en ys ∧ Srt key en b ys ∧ Crs key a mid b ys := by
  have hmid : st + (en - m) = mid := by omega
  have g1 : ∀ k, k < st → ys[k]? = xs[k]? := fun k hk => by rw [hr]; unfold rotF; rw [if_neg (by omega), if_neg (by omega)]
  have g2 : ∀ k, st ≤ k → k < mid → ys[k]? = xs[m + (k - st)]? := fun k h3 h4 => by rw [hr]; unfold rotF; rw [if_pos (by omega)]
  have g3 : ∀ k, mid ≤ k → k < en → ys[k]? = xs[k - (en - m)]? := fun k h3 h4 => by rw [hr]; unfold rotF; rw [if_neg (by omega), if_pos (by omega)]
  have g4 : ∀ k, en ≤ k → ys[k]? = xs[k]? := fun k hk => by rw [hr]; unfold rotF; rw [if_neg (by omega), if_neg (by omega)]
  have s1 : Srt key a st ys := (h1.sub (Nat.le_refl _) e1).same fun i _ hi => g1 i hi
  have s4 : Srt key en b ys := (h2.sub e2 (Nat.le_refl _)).same fun i hi _ => g4 i hi
  have s2 : Srt key st mid ys := fun i j x y q1 q2 q3 hx hy => h2 (m + (i - st)) (m + (j - st)) x y (by omega) (by omega) (by omega) (by rw [← g2 i q1 (by omega)]; exact hx) (by rw [← g2 j (by omega) q3]; exact hy)
  have s3 : Srt key mid en ys := fun i j x y q1 q2 q3 hx hy => h1 (i - (en - m)) (j - (en - m)) x y (by omega) (by omega) (by omega) (by rw [← g3 i q1 (by omega)]; exact hx) (by rw [← g3 j (by omega) q3]; exact hy)
  refine ⟨s1, s2, s3, s4, fun p q x y q1 q2 q3 q4 hx hy => ?_⟩
  -- the left half's elements and the right half's
  have get : ∀ k, k < b → ∃ z, xs[k]? = some z := fun k hk => ⟨xs[k], List.getElem?_eq_getElem (by omega)⟩
  by_cases hp : p < st
  · have hx' : xs[p]? = some x := by rw [← g1 p hp]; exact hx
    by_cases hq : q < en
    · have hy' : xs[q - (en - m)]? = some y := by rw [← g3 q q3 hq]; exact hy
      exact h1.le q1 (by omega) (by omega) hx' hy'
    · have hy' : xs[q]? = some y := by rw [← g4 q (by omega)]; exact hy
      rcases c1 with c1 | c1 | c1
      · omega
      · omega
      · obtain ⟨u, hu⟩ := get (st - 1) (by omega)
        obtain ⟨v, hv⟩ := get en (by omega)
        exact Int.le_trans (h1.le q1 (by omega) (by omega) hx' hu) (Int.le_trans (c1 u v hu hv) (h2.le e2 (by omega) q4 hv hy'))
  · have hx' : xs[m + (p - st)]? = some x := by rw [← g2 p (by omega) q2]; exact hx
    by_cases hq : q < en
    · have hy' : xs[q - (en - m)]? = some y := by rw [← g3 q q3 hq]; exact hy
      rcases c2 with c2 | c2 | c2
      · omega
      · omega
      · obtain ⟨u, hu⟩ := get (en - 1) (by omega)
        obtain ⟨v, hv⟩ := get st (by omega)
        exact Int.le_trans (h2.le (by omega) (by omega) (by omega) hx' hu) (Int.le_trans (c2 u v hu hv) (h1.le e0 (by omega) (by omega) hv hy'))
    · have hy' : xs[q]? = some y := by rw [← g4 q (by omega)]; exact hy
      exact h2.le (by omega) (by omega) q4 hx' hy'
/-! ### One element put into its place -/
/-- x travels from a to the right: what lies before it and what it will still pass is less. -/
structure Rgt (key : α → Int) (a b i k : Nat) (x : α) (zs : List α) : Prop where
  at_ : zs[k]? = some x
  rest : ∀ p q u v, a ≤ p → p < q → q < b → p ≠ k → q ≠ k → zs[p]? = some u → zs[q]? = some v → key u ≤ key v
  lo : ∀ p u, a ≤ p → p < i → p ≠ k → zs[p]? = some u → key u ≤ key x
  hi : ∀ p u, i ≤ p → p < b → zs[p]? = some u → key x ≤ key u
theorem Rgt.step {i k : Nat} {x y : α} (h : Rgt key a b i k x zs) (h1 : a ≤ k) (h2 : k + 1 < i) (h3 : i ≤ b) (hy : zs[k + 1]? = some y) : Rgt key a b i (k + 1) x ((zs.set k y).set (k + 1) x) := by
  have hg := sw_get h.at_ hy
  refine ⟨by rw [hg, if_pos rfl], fun p q u v f1 f2 f3 f4 f5 hu hv => ?_, fun p u f1 f2 f3 hu => ?_, fun p u f1 f2 hu => ?_⟩
  · rw [hg, if_neg f4] at hu
    rw [hg, if_neg f5] at hv
    by_cases hp : p = k
    · rw [if_pos hp] at hu; cases hu
      rw [if_neg (by omega)] at hv
      exact h.rest (k + 1) q y v (by omega) (by omega) f3 (by omega) (by omega) hy hv
    · rw [if_neg hp] at hu
      by_cases hq : q = k
      · rw [if_pos hq] at hv; cases hv
        exact h.rest p (k + 1) u y f1 (by omega) (by omega) hp (by omega) hu hy
      · rw [if_neg hq] at hv
        exact h.rest p q u v f1 f2 f3 hp hq hu hv
  · rw [hg, if_neg f3] at hu
    by_cases hp : p = k
    · rw [if_pos hp] at hu; cases hu
      exact h.lo (k + 1) y (by omega) h2 (by omega) hy
    · rw [if_neg hp] at hu
      exact h.lo p u f1 f2 hp hu
  · rw [hg, if_neg (by omega), if_neg (by omega)] at hu
    exact h.hi p u f1 f2 hu
theorem Rgt.done {i k : Nat} {x : α} (h : Rgt key a b i k x zs) (hk : k + 1 = i) : Srt key a b zs := fun p q u v f1 f2 f3 hu hv => by
  by_cases hp : p = k
  · subst hp; rw [h.at_] at hu; cases hu
    exact h.hi q v (by omega) f3 hv
  · by_cases hq : q = k
    · subst hq; rw [h.at_] at hv; cases hv
      exact h.lo p u f1 (by omega) hp hu
    · exact h.rest p q u v f1 f2 f3 hp hq hu hv
/-- x travels from m to the left. -/
structure Lft (key : α → Int) (a b i k : Nat) (x : α) (zs : List α) : Prop where
  at_ : zs[k]? = some x
  rest : ∀ p q u v, a ≤ p → p < q → q < b → p ≠ k → q ≠ k → zs[p]? = some u → zs[q]? = some v → key u ≤ key v
  lo : ∀ p u, a ≤ p → p < i → zs[p]? = some u → key u ≤ key x
  hi : ∀ p u, i ≤ p → p < b → p ≠ k → zs[p]? = some u → key x ≤ key u
theorem Lft.step {i k : Nat} {x y : α} (h : Lft key a b i k x zs) (h0 : a ≤ i) (h1 : i < k) (h2 : k < b) (hy : zs[k - 1]? = some y) : Lft key a b i (k - 1) x ((zs.set k y).set (k - 1) x) := by
  have hg := sw_get h.at_ hy
  refine ⟨by rw [hg, if_pos rfl], fun p q u v f1 f2 f3 f4 f5 hu hv => ?_, fun p u f1 f2 hu => ?_, fun p u f1 f2 f3 hu => ?_⟩
  · rw [hg, if_neg f4] at hu
    rw [hg, if_neg f5] at hv
    by_cases hp : p = k
    · rw [if_pos hp] at hu; cases hu
      rw [if_neg (by omega)] at hv
      exact h.rest (k - 1) q y v (by omega) (by omega) f3 (by omega) (by omega) hy hv
    · rw [if_neg hp] at hu
      by_cases hq : q = k
      · rw [if_pos hq] at hv; cases hv
        exact h.rest p (k - 1) u y f1 (by omega) (by omega) hp (by omega) hu hy
      · rw [if_neg hq] at hv
        exact h.rest p q u v f1 f2 f3 hp hq hu hv
  · rw [hg, if_neg (by omega), if_neg (by omega)] at hu
    exact h.lo p u f1 f2 hu
  · rw [hg, if_neg f3] at hu
    by_cases hp : p = k
    · rw [if_pos hp] at hu; cases hu
      exact h.hi (k - 1) y (by omega) (by omega) (by omega) hy
    · rw [if_neg hp] at hu
      exact h.hi p u f1 f2 hp hu
theorem Lft.done {i : Nat} {x : α} (h : Lft key a b i i x zs) : Srt key a b zs := fun p q u v f1 f2 f3 hu hv => by
  by_cases hp : p = i
  · subst hp; rw [h.at_] at hu; cases hu
    exact h.hi q v (by omega) f3 (by omega) hv
  · by_cases hq : q = i
    · subst hq; rw [h.at_] at hv; cases hv
      exact h.lo p u f1 f2 hu
    · exact h.rest p q u v f1 f2 f3 hp hq hu hv
/-! ### Blocks -/
/-- Each block of s places ascends. -/
def Blks (key : α → Int) (s n : Nat) (xs : List α) : Prop := ∀ k, Srt key (k * s) (min ((k + 1) * s) n) xs
theorem Blks.done {s n : Nat} (h : Blks key s n xs) (hs : n ≤ s) : Srt key 0 n xs := by
  have := h 0
  rw [Nat.zero_mul, Nat.zero_add, Nat.one_mul, Nat.min_eq_right hs] at this
  exact this
end
/-! ### What ascends by distinct keys is one list -/
section
variable {α : Type} {key : α → Int}
theorem asc_unique : ∀ {xs ys : List α}, xs.Perm ys → xs.Pairwise (fun x y => key x < key y) → ys.Pairwise (fun x y => key x < key y) → xs = ys
  | [], ys, h, _, _ => by rw [h.nil_eq]
  | x :: xs, [], h, _, _ => by exact absurd h.symm.nil_eq (by simp)
  | x :: xs, y :: ys, h, h1, h2 => by
    obtain ⟨a1, a2⟩ := List.pairwise_cons.1 h1
    obtain ⟨b1, b2⟩ := List.pairwise_cons.1 h2
    have hxy : x = y := by
      rcases List.mem_cons.1 (h.mem_iff.1 (List.mem_cons_self ..)) with e | hx
      · exact e
      · rcases List.mem_cons.1 (h.mem_iff.2 (List.mem_cons_self ..)) with e | hy
        · exact e.symm
        · have := b1 x hx
          have := a1 y hy
          omega
    subst hxy
    rw [asc_unique ((List.perm_cons x).1 h) a2 b2]
theorem srt_asc {xs : List α} (h : Srt key 0 xs.length xs) (hd : (xs.map key).Nodup) : xs.Pairwise (fun x y => key x < key y) := by
  rw [List.pairwise_iff_getElem]
  intro i j hi hj hij
  have h1 := h i j xs[i] xs[j] (Nat.zero_le _) hij hj (List.getElem?_eq_getElem hi) (List.getElem?_eq_getElem hj)
  have h2 : key xs[i] ≠ key xs[j] := fun e => by
    have h3 := (List.getElem_inj (i := i) (j := j) (h₀ := by simpa using hi) (h₁ := by simpa using hj) hd).1 (by simpa using e)
    omega
  omega
end
end Go.Proofs.Ytpfojangcgffkaa
