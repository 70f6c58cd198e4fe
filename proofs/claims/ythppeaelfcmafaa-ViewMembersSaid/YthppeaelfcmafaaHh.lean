/- Rules: the elements of a row of one's own, read and written. Own work. -/
import Derived.Test.YthppeaelfcmafaaHg
namespace Go.Proofs.Ythppeaelfcmafaa
open Go.RowKit
set_option linter.unusedVariables false
section
variable {P : Program} {c : Ctx} {A : Nat → Option VP} {L : List Item} {d : Option Tmp} {ty : TypeId} {pos : String} {af : Array Edge} {g : Option (Nat × Bool)}
variable {α : Type} {T : Ty α} {xs : List α} {i : Option Addr × Nat} {n : Nat} {e : TypeId}
/-- The address of a cell of a row of one's own. -/
def bpt (i : Option Addr × Nat) (o : Nat) : Value := match i.1 with
  | some a => .pointer (some ⟨a.block, o, none⟩)
  | none => undef
theorem own_buf {φ : Fz} {w : World} {k : Nat} (hm : HP c φ L w) (hL : buf (slV n i) e T xs ∈ L) (hk : k < xs.length) : ∃ gg cap cur, i = (some ⟨gg, 0, none⟩, cap) ∧ n = xs.length ∧ w.heap[gg]? = some (.cells cur e (0, 0)) ∧ xs.length ≤ cap ∧ cap ≤ maxLen ∧ cur.size = cap * T.size ∧
    ∃ flat, cur.toList.take (xs.length * T.size) = flat ∧ Alls φ (xs.flatMap T.cells) flat ∧ ones flat ∧ flat.length = xs.length * T.size := by
  obtain ⟨flat, f1, f2, f3⟩ := buf_owns (hm.mem.items _ hL)
  rcases f3.2 with ⟨_, h0⟩ | ⟨gg, cap, cur, e1, _, e2, e3, e4, e5, e6⟩
  · omega
  · obtain ⟨a, cp⟩ := i
    unfold slV at e1
    injection e1 with e7 e8 e9
    dsimp only at e7 e8 e9
    subst e7 e9
    exact ⟨gg, cp, cur, rfl, e8, e2, e3, e4, e5, flat, e6, f1, f2, f3.1⟩
theorem op_indexBuf {x y : Operand} {t : TypeId} {j : Int} {k : Nat} {q : IntKind} (hx : Ev A L x (Is (slV n i))) (hL : buf (slV n i) e T xs ∈ L) (hy : Ev A L y (Is (.int q j))) (hu : P.underlying t = some (.slice e)) (hs : (P.info? e).map (·.size) = some T.size) (hj : j = k) (hk : k < xs.length) :
    OpP P c ⟨d, .indexAddr t x y, ty, pos, af, g⟩ A L (Is (bpt i (k * T.size))) :=
  opp fun φ a w hm he => by
    have h1 : a.eval x = slV n i := he x (by simp [Op.operands]) _ hx
    have h6 : a.eval y = .int q j := he y (by simp [Op.operands]) _ hy
    obtain ⟨gg, cap, cur, rfl, rfl, _⟩ := own_buf hm hL hk
    refine ⟨_, ?_, rfl⟩
    have h7 : (0 : Int) ≤ j ∧ j < (xs.length : Int) := by omega
    have h8 : j.toNat = k := by omega
    simp only [execOp, h1, h6, slV]
    refine run_val ?_
    simp only [Instr.indexAt, asIntOf, Sem.run_bind, Sem.run_pure, Result.andThen_ok, run_underlying hu, h7, and_self, if_true, run_sizeOf hs, h8, addr_add0, bpt, Nat.zero_add]
theorem op_fieldBuf {s : TypeId} {x : Operand} {f0 o m k : Nat} {fs : Array Field} {f : Field} (hx : Ev A L x (Is (bpt i o))) (hL : buf (slV n i) e T xs ∈ L) (h0 : 0 < xs.length) (hu : P.underlying s = some (.struct fs)) (hf : fs[f0]? = some f) (hn : (P.info? f.type).map (·.size) = some (m + 1)) (hk : f.offset = k) :
    OpP P c ⟨d, .fieldAddr s x f0, ty, pos, af, g⟩ A L (Is (bpt i (o + k))) := by
  subst hk
  exact opp fun φ a w hm he => by
    have h1 : a.eval x = bpt i o := he x (by simp [Op.operands]) _ hx
    obtain ⟨gg, cap, cur, rfl, _⟩ := own_buf hm hL h0
    exact ⟨_, by simp only [execOp, h1, bpt, Sem.run_bind, run_field hu hf hn, Result.andThen_ok, Sem.run_pure, addr_add0], rfl⟩
theorem buf_cell {φ : Fz} {w : World} {gg k j : Nat} {cur : Array Value} {flat : List Value} {x : α} {B : VP} (h1 : w.heap[gg]? = some (.cells cur e (0, 0))) (h2 : cur.toList.take (xs.length * T.size) = flat) (h3 : Alls φ (xs.flatMap T.cells) flat) (hk : xs[k]? = some x) (hB : (T.cells x)[j]? = some B) :
    ∃ u, w.cell? ⟨gg, k * T.size + j, none⟩ = some u ∧ B.ok φ u ∧ flat[k * T.size + j]? = some u := by
  obtain ⟨u, h4, h5⟩ := flat_at (flat := flat) h3 hk hB
  refine ⟨u, ?_, h5, h4⟩
  rw [cell_of_row w gg _ cur e _ h1]
  rw [← h2] at h4
  have hl : k * T.size + j < xs.length * T.size := by
    have := (List.getElem?_eq_some_iff.1 h4).1
    rw [List.length_take] at this; omega
  rw [List.getElem?_take_of_lt hl, Array.getElem?_toList] at h4
  exact h4
theorem op_loadBuf {t : TypeId} {x : Operand} {k j : Nat} {z : α} {B : VP} {D : TypeDesc} (hx : Ev A L x (Is (bpt i (k * T.size + j)))) (hL : buf (slV n i) e T xs ∈ L) (hz : xs[k]? = some z) (hu : P.underlying t = some D) (hD : aggB D = false) (hB : (T.cells z)[j]? = some B) : OpP P c ⟨d, .load t x, ty, pos, af, g⟩ A L B :=
  opp fun φ a w hm he => by
    have h1 : a.eval x = bpt i (k * T.size + j) := he x (by simp [Op.operands]) _ hx
    obtain ⟨gg, cap, cur, rfl, _, e2, _, _, _, flat, e6, e7, _⟩ := own_buf hm hL (List.getElem?_eq_some_iff.1 hz).1
    obtain ⟨u, f1, f2, _⟩ := buf_cell e2 e6 e7 hz hB
    exact ⟨u, by simp only [execOp, h1, bpt]; exact run_val (run_loadOne hu hD f1), f2⟩
theorem op_loadBuf0 {t : TypeId} {x : Operand} {k : Nat} {z : α} {B : VP} {D : TypeDesc} (hx : Ev A L x (Is (bpt i (k * T.size)))) (hL : buf (slV n i) e T xs ∈ L) (hz : xs[k]? = some z) (hu : P.underlying t = some D) (hD : aggB D = false) (hB : (T.cells z)[0]? = some B) : OpP P c ⟨d, .load t x, ty, pos, af, g⟩ A L B :=
  op_loadBuf (j := 0) hx hL hz hu hD hB
theorem flatT_len (ys : List α) : (ys.flatMap T.cells).length = ys.length * T.size := by
  induction ys with
  | nil => simp
  | cons y ys ih => rw [List.flatMap_cons, List.length_append, ih, T.len, List.length_cons, Nat.add_mul]; omega
theorem op_loadBufs {t : TypeId} {x : Operand} {k : Nat} {z : α} {D : TypeDesc} (hx : Ev A L x (Is (bpt i (k * T.size)))) (hL : buf (slV n i) e T xs ∈ L) (hz : xs[k]? = some z) (hu : P.underlying t = some D) (hD : aggB D = true) (hn : (P.info? t).map (·.size) = some T.size) : OpP P c ⟨d, .load t x, ty, pos, af, g⟩ A L (IsAgg (T.cells z)) :=
  opp fun φ a w hm he => by
    have h1 : a.eval x = bpt i (k * T.size) := he x (by simp [Op.operands]) _ hx
    obtain ⟨gg, cap, cur, rfl, _, e2, _, _, _, flat, e6, e7, e8, e9⟩ := own_buf hm hL (List.getElem?_eq_some_iff.1 hz).1
    have hkl := (List.getElem?_eq_some_iff.1 hz).1
    have hlen : (T.cells z).length = T.size := T.len z
    have key : Alls φ (T.cells z) ((flat.drop (k * T.size)).take T.size) := by
      have h2 : (xs.flatMap T.cells).drop (k * T.size) = T.cells z ++ ((xs.drop (k + 1)).flatMap T.cells) := by
        have h3 : xs.flatMap T.cells = (xs.take k).flatMap T.cells ++ (xs.drop k).flatMap T.cells := by
          rw [← List.flatMap_append, List.take_append_drop]
        have h4 : ((xs.take k).flatMap T.cells).length = k * T.size := by
          rw [flatT_len, List.length_take]
          congr 1; omega
        rw [h3, ← h4, List.drop_left, List.drop_eq_getElem_cons hkl, List.flatMap_cons]
        have : xs[k] = z := by rw [List.getElem?_eq_getElem hkl] at hz; exact Option.some.inj hz
        rw [this]
      have h5 := (e7.drop (k * T.size)).take T.size
      rw [h2, ← hlen, List.take_left] at h5
      rw [hlen] at h5; exact h5
    have hl2 : ((flat.drop (k * T.size)).take T.size).length = T.size := by rw [← key.len, hlen]
    have h6 := run_loadAgg (w := w) (b := gg) (o := k * T.size) (vs := (flat.drop (k * T.size)).take T.size) hu hD hn hl2 fun j v hj => by
      rw [List.getElem?_take] at hj
      split at hj
      · rename_i hjt
        rw [List.getElem?_drop] at hj
        rw [cell_of_row w gg _ cur e _ e2]
        rw [← e6] at hj
        have hl : k * T.size + j < xs.length * T.size := by
          have := (List.getElem?_eq_some_iff.1 hj).1
          rw [List.length_take] at this; omega
        rw [List.getElem?_take_of_lt hl, Array.getElem?_toList] at hj
        exact hj
      · cases hj
    exact ⟨_, by simp only [execOp, h1, bpt]; exact run_val h6, ⟨_, rfl, key, e8.sub fun u hu => List.mem_of_mem_drop (List.mem_of_mem_take hu)⟩⟩
theorem ovr_append {As Cs Bs : List VP} {o : Nat} (h : o + Bs.length ≤ Cs.length) (D : List VP) : ovr (As ++ Cs ++ D) (As.length + o) Bs = As ++ ovr Cs o Bs ++ D := by
  induction Bs generalizing Cs o with
  | nil => rfl
  | cons B Bs ih =>
    simp only [List.length_cons] at h
    rw [ovr, ovr]
    have : (As ++ Cs ++ D).set (As.length + o) B = As ++ Cs.set o B ++ D := by
      rw [List.append_assoc, List.set_append_right _ _ (by omega), Nat.add_sub_cancel_left, List.set_append_left _ _ (by omega), List.append_assoc]
    rw [this, Nat.add_assoc, ih (by simp; omega)]
theorem flat_split {k : Nat} {z : α} (hz : xs[k]? = some z) : xs.flatMap T.cells = (xs.take k).flatMap T.cells ++ T.cells z ++ (xs.drop (k + 1)).flatMap T.cells := by
  have hkl := (List.getElem?_eq_some_iff.1 hz).1
  have h3 : xs = xs.take k ++ z :: xs.drop (k + 1) := by
    have : xs[k] = z := by rw [List.getElem?_eq_getElem hkl] at hz; exact Option.some.inj hz
    rw [← this, List.getElem_cons_drop, List.take_append_drop]
  conv => lhs; rw [h3]
  rw [List.flatMap_append, List.flatMap_cons, List.append_assoc]
theorem flat_ovr {k o : Nat} {z z' : α} {Bs : List VP} (hz : xs[k]? = some z) (hB : o + Bs.length ≤ T.size) (hc : T.cells z' = ovr (T.cells z) o Bs) : (xs.set k z').flatMap T.cells = ovr (xs.flatMap T.cells) (k * T.size + o) Bs := by
  have hkl := (List.getElem?_eq_some_iff.1 hz).1
  have h1 : (xs.set k z')[k]? = some z' := by simp [hkl]
  rw [flat_split h1, flat_split hz, hc]
  have h2 : ((xs.take k).flatMap T.cells).length = k * T.size := by rw [flatT_len, List.length_take]; congr 1; omega
  rw [← h2, ovr_append (by rw [T.len]; exact hB)]
  congr 2
  · rw [List.take_set, List.set_eq_of_length_le (by simp; omega)]
  · rw [List.drop_set]; simp
theorem op_storeBuf {t : TypeId} {x y : Operand} {k o m : Nat} {z z' : α} {D : VP} {Bs : List VP} {L' : List Item} (hx : Ev A L x (Is (bpt i (k * T.size + o)))) (hy : Ev A L y D) (hD : CellsOf D Bs) (hr : Repl L (buf (slV n i) e T xs) (buf (slV n i) e T (xs.set k z')) L') (hz : xs[k]? = some z)
    (hn : (P.info? t).map (·.size) = some m) (hB : (Nat.beq Bs.length m && Nat.ble (o + m) T.size) = true) (hc : T.cells z' = ovr (T.cells z) o Bs) : OpS P c ⟨d, .store t x y, ty, pos, af, g⟩ A L (fun _ : Unit => Is undef) (fun _ => L') := by
  intro φ a w K Q hm he hk
  have h1 : a.eval x = bpt i (k * T.size + o) := he x (by simp [Op.operands]) _ hx
  obtain ⟨us, h2, h3, h4⟩ := hD φ _ (he y (by simp [Op.operands]) _ hy)
  simp only [Bool.and_eq_true] at hB
  have b1 := Nat.eq_of_beq_eq_true hB.1
  have b2 := Nat.le_of_ble_eq_true hB.2
  have hkl := (List.getElem?_eq_some_iff.1 hz).1
  obtain ⟨gg, cap, cur, rfl, rfl, e2, e3, e4, e5, flat, e6, e7, e8, e9⟩ := own_buf hm hr.mem hkl
  have l1 := h3.len
  have hmul : (k + 1) * T.size ≤ xs.length * T.size := Nat.mul_le_mul_right _ hkl
  have hmul2 : xs.length * T.size ≤ cap * T.size := Nat.mul_le_mul_right _ e3
  rw [Nat.add_mul, Nat.one_mul] at hmul
  have hst := run_storeCells_at (P := P) gg (k * T.size + o) e us 0 cur w e2 (by omega) h4
  simp only [Nat.add_zero] at hst
  have hrun : (execOp a.eval ⟨d, .store t x y, ty, pos, af, g⟩).run P w = .ok .skip (w.setRow gg (cur.toList.take (k * T.size + o) ++ us ++ cur.toList.drop (k * T.size + o + us.length)).toArray) := by
    simp only [execOp, h1, bpt, Instr.storeAt, Instr.sureAddr, Sem.run_bind, Sem.run_pure, Result.andThen_ok, storeVar, run_sizeOf hn, h2]
    rw [if_neg (by simp; omega)]
    rw [hst]; rfl
  unfold Oper.wp
  rw [hrun]
  have hup := hm.upd hr (setRow_kpt (names [buf (slV xs.length (some ⟨gg, 0, none⟩, cap)) e T xs]) w gg (cur.toList.take (k * T.size + o) ++ us ++ cur.toList.drop (k * T.size + o + us.length)).toArray (by simp [names, buf, slV, Value.ownBlock])) ?_ (fun b' hb' => .inr hb')
  · exact hk () φ undef _ Fle.rfl' rfl hup
  refine ⟨⟨flat.take (k * T.size + o) ++ us ++ flat.drop (k * T.size + o + us.length), ?_, ?_, ?_, ?_⟩, fun b' hb' => ?_⟩
  · simp only [List.length_append, List.length_take, List.length_drop, List.length_set]; omega
  · rw [flat_ovr hz (by omega) hc, ovr_get _ _ _ (by rw [flatT_len]; omega), l1]
    exact ((e7.take _).append h3).append (e7.drop _)
  · intro u hu
    simp only [List.mem_append] at hu
    rcases hu with (hu | hu) | hu
    · exact e8 u (List.mem_of_mem_take hu)
    · exact h4 u hu
    · exact e8 u (List.mem_of_mem_drop hu)
  · rw [List.length_set]
    refine .inr ⟨gg, cap, (cur.toList.take (k * T.size + o) ++ us ++ cur.toList.drop (k * T.size + o + us.length)).toArray, rfl, ?_, e3, e4, ?_, ?_⟩
    · simp only [buf, slV, Value.ownBlock, Option.bind_some]
      exact setRow_heap w gg _ _ _ _ e2
    · simp only [List.size_toArray, List.length_append, List.length_take, List.length_drop, Array.length_toList]; omega
    · rw [← e6]
      simp only [List.take_append, List.take_take, List.drop_take, List.length_take, List.length_append, Array.length_toList]
      have q1 : min (xs.length * T.size) (k * T.size + o) = k * T.size + o := by omega
      have q2 : min (k * T.size + o) (xs.length * T.size) = k * T.size + o := by omega
      have q3 : min (k * T.size + o) cur.size = k * T.size + o := by omega
      rw [q1, q2, q3, List.take_of_length_le (l := us) (by omega)]
  · have := (hm.mem.items _ hr.mem).2 b' hb'
    exact ⟨by simp [World.setRow]; exact this.1, this.2⟩
theorem op_storeBuf0 {t : TypeId} {x y : Operand} {k m : Nat} {z z' : α} {D : VP} {Bs : List VP} {L' : List Item} (hx : Ev A L x (Is (bpt i (k * T.size)))) (hy : Ev A L y D) (hD : CellsOf D Bs) (hr : Repl L (buf (slV n i) e T xs) (buf (slV n i) e T (xs.set k z')) L') (hz : xs[k]? = some z)
    (hn : (P.info? t).map (·.size) = some m) (hB : (Nat.beq Bs.length m && Nat.ble m T.size) = true) (hc : T.cells z' = ovr (T.cells z) 0 Bs) : OpS P c ⟨d, .store t x y, ty, pos, af, g⟩ A L (fun _ : Unit => Is undef) (fun _ => L') :=
  op_storeBuf (o := 0) hx hy hD hr hz hn (by simpa using hB) hc
end
end Go.Proofs.Ythppeaelfcmafaa
