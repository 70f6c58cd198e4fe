/- append onto a row of the call's own, whatever the source. Own work, on the kit's laws. -/
import Derived.Test.YthppeaelfcmafaaMem
import Derived.Laws.OwnMore
import Derived.OwnWalk
namespace Go.Proofs.Ythppeaelfcmafaa
open Go.RowKit
set_option linter.unusedVariables false
section
variable {P : Program} {w : World}
theorem app_nil (base : Nat) (t ty e : TypeId) (i : TypeInfo) (size : Nat) (ht : P.underlying t = some (.slice e)) (hi : P.info? e = some i)
    (v : Value) (n : Nat) (xs : List Value) (hown : w.ownsRow base e size v n xs) (c : Nat) : (Builtin.append_ #[t, t] ty #[v, .slice none 0 c]).run P w = .ok v w := by
  rcases hown.2 with ⟨rfl, rfl⟩ | ⟨g, cap, cur, rfl, _, _, hnc, _⟩
  · simp [Builtin.append_, run_underlying ht, sizeOf, typeInfo, hi, Builtin.lenOf, Builtin.firstCells]
  · simp [Builtin.append_, run_underlying ht, sizeOf, typeInfo, hi, Builtin.lenOf, Builtin.firstCells, hnc, storeCells]
theorem run_app (base : Nat) (t ty e : TypeId) (z : Value) (size bytes : Nat) (ht : P.underlying t = some (.slice e)) (hinfo : (P.info? e).map (fun i => (i.zero, i.size, i.bytes)) = some (some z, size, bytes))
    (hzs : z.cells.size = size) (hsz : 0 < size)
    (v : Value) (n : Nat) (xs : List Value) (hown : w.ownsRow base e size v n xs)
    (xv : Value) (m : Nat) (news : List Value) (hr : SlN w xv size m news) (h1 : ∀ u ∈ news, u.oneCell' = true)
    (hn : n + m ≤ 1073741824) (hbytes : (n + m) * bytes ≤ 140737488355328) (hbase : base ≤ w.heap.size) :
    ∃ v' w', (Builtin.append_ #[t, t] ty #[v, xv]).run P w = .ok v' w' ∧ w'.ownsRow base e size v' (n + m) (xs ++ news) ∧ w.grownBy w' v.ownBlock := by
  obtain ⟨i, hi, hzz⟩ := Option.map_eq_some_iff.1 hinfo
  simp only [Prod.mk.injEq] at hzz
  obtain ⟨hz, hs, hb⟩ := hzz
  have hml : n + m ≤ maxLen := by unfold maxLen; omega
  obtain ⟨hlen, hr⟩ := hr
  rcases hr with ⟨a, c, rfl, rfl⟩ | ⟨b, o, c, rfl, hmc, hcm, hlt, hcell⟩
  · have hnil : news = [] := List.eq_nil_of_length_eq_zero (by simpa using hlen)
    subst hnil
    cases a with
    | none => exact ⟨v, w, app_nil base t ty e i size ht hi v n xs hown c, by simpa using hown, World.grownBy.refl w _⟩
    | some ad =>
      obtain ⟨v', w', r1, r2, r3, _⟩ := run_append_own (P := P) w base t ty e i z size bytes ht hi hz hs hb hzs hsz v n xs hown ad 0 c [] (by simp) (by simp) (by simp) hml hbytes hbase
      exact ⟨v', w', r1, r2, r3⟩
  · obtain ⟨v', w', r1, r2, r3, _⟩ := run_append_own (P := P) w base t ty e i z size bytes ht hi hz hs hb hzs hsz v n xs hown ⟨b, o, none⟩ m c news hlen
      (fun j u hu => by rw [addr_add]; exact hcell j u hu) h1 hml hbytes hbase
    exact ⟨v', w', r1, r2, r3⟩
theorem wp_app {o : Oper} {a : Act} {K : Act → World → Prop} {Q : Exit → Act → World → Prop} (s x : Operand) (t : TypeId)
    (ho : o.op = .call { callee := .builtin .append, args := #[s, x], argTypes := #[t, t] })
    (base : Nat) (e : TypeId) (z : Value) (size bytes : Nat) (ht : P.underlying t = some (.slice e)) (hinfo : (P.info? e).map (fun i => (i.zero, i.size, i.bytes)) = some (some z, size, bytes))
    (hzs : z.cells.size = size) (hsz : 0 < size)
    (v : Value) (n : Nat) (xs : List Value) (hs : a.eval s = v) (hown : w.ownsRow base e size v n xs)
    (xv : Value) (m : Nat) (news : List Value) (hx : a.eval x = xv) (hr : SlN w xv size m news) (h1 : ∀ u ∈ news, u.oneCell' = true)
    (hn : n + m ≤ 1073741824) (hbytes : (n + m) * bytes ≤ 140737488355328) (hbase : base ≤ w.heap.size)
    (h : ∀ v' w', w'.ownsRow base e size v' (n + m) (xs ++ news) → w.grownBy w' v.ownBlock → K (a.put o.dst v') w') : o.wp P a w K Q := by
  obtain ⟨v', w', hrun, h2, h3⟩ := run_app (P := P) base t o.type e z size bytes ht hinfo hzs hsz v n xs hown xv m news hr h1 hn hbytes hbase
  unfold Oper.wp execOp
  simp only [ho, resolve, invoke, builtin, Sem.run_bind, Sem.run_pure, Result.andThen_ok, List.map_toArray, List.map_cons, List.map_nil, hs, hx, hrun]
  exact h v' w' h2 h3
theorem wpList_app {ops : Array Oper} {rest : List Oper} {o : Oper} {a : Act} {Q : Exit → Act → World → Prop} (hgd : o.guard = none) (s x : Operand) (t : TypeId)
    (ho : o.op = .call { callee := .builtin .append, args := #[s, x], argTypes := #[t, t] })
    (base : Nat) (e : TypeId) (z : Value) (size bytes : Nat) (ht : P.underlying t = some (.slice e)) (hinfo : (P.info? e).map (fun i => (i.zero, i.size, i.bytes)) = some (some z, size, bytes))
    (hzs : z.cells.size = size) (hsz : 0 < size)
    (v : Value) (n : Nat) (xs : List Value) (hs : a.eval s = v) (hown : w.ownsRow base e size v n xs)
    (xv : Value) (m : Nat) (news : List Value) (hx : a.eval x = xv) (hr : SlN w xv size m news) (h1 : ∀ u ∈ news, u.oneCell' = true)
    (hn : n + m ≤ 1073741824) (hbytes : (n + m) * bytes ≤ 140737488355328) (hbase : base ≤ w.heap.size)
    (h : ∀ v' w', w'.ownsRow base e size v' (n + m) (xs ++ news) → w.grownBy w' v.ownBlock → wpList P ops Q rest (a.put o.dst v') w') : wpList P ops Q (o :: rest) a w :=
  wpList_plain hgd fun _ hK => wp_app s x t ho base e z size bytes ht hinfo hzs hsz v n xs hs hown xv m news hx hr h1 hn hbytes hbase fun v' w' h2 h3 => hK _ _ (h v' w' h2 h3)
end
/-- An owned row is a slice. -/
theorem own_form {w : World} {base : Nat} {e : TypeId} {size n : Nat} {v : Value} {xs : List Value} (h : w.ownsRow base e size v n xs) : ∃ a c, v = .slice a n c := by
  rcases h.2 with ⟨rfl, rfl⟩ | ⟨g, cap, cur, rfl, _⟩
  · exact ⟨_, _, rfl⟩
  · exact ⟨_, _, rfl⟩
theorem own_below {w w' : World} {base : Nat} {e : TypeId} {size n : Nat} {v : Value} {xs : List Value} (h : w.ownsRow base e size v n xs) {B : Nat} (hb : Below B w w') (hB : w.heap.size ≤ B) : w'.ownsRow base e size v n xs := by
  refine ⟨h.1, ?_⟩
  rcases h.2 with h2 | ⟨g, cap, cur, rfl, h1, h2, h3⟩
  · exact .inl h2
  · have hl : g < w.heap.size := by
      rcases Nat.lt_or_ge g w.heap.size with hl | hl
      · exact hl
      · rw [Array.getElem?_eq_none hl] at h2; cases h2
    exact .inr ⟨g, cap, cur, rfl, h1, by rw [hb.block g (by omega)]; exact h2, h3⟩
/-- An owned row reads as a slice. -/
theorem own_sl {w : World} {base : Nat} {e : TypeId} {size n : Nat} {v : Value} {xs : List Value} (h : w.ownsRow base e size v n xs) : SlN w v size n xs := by
  refine ⟨h.1, ?_⟩
  rcases h.2 with ⟨rfl, rfl⟩ | ⟨g, cap, cur, rfl, h1, h2, h3, h4, h5, h6⟩
  · exact .inl ⟨_, _, rfl, rfl⟩
  · refine .inr ⟨g, 0, cap, rfl, h3, h4, ?_, fun i u hu => ?_⟩
    · rcases Nat.lt_or_ge g w.heap.size with hl | hl
      · exact hl
      · rw [Array.getElem?_eq_none hl] at h2; cases h2
    · rw [Nat.zero_add, cell_of_row w g i cur e _ h2]
      rw [← h6] at hu
      have hi : i < n * size := by
        rcases Nat.lt_or_ge i (n * size) with g' | g'
        · exact g'
        · rw [List.getElem?_eq_none (by rw [List.length_take]; omega)] at hu; cases hu
      rw [List.getElem?_take_of_lt hi, Array.getElem?_toList] at hu
      exact hu
theorem own_sl1 {w : World} {base : Nat} {e : TypeId} {n : Nat} {v : Value} {xs : List Value} (h : w.ownsRow base e 1 v n xs) : Sl w v xs := by
  have h1 := own_sl h
  have h2 : xs.length = n := by have := h.1; omega
  unfold Sl
  rw [h2]
  exact h1
/-- A new block of cells reads as the one-element slice over it. -/
theorem sl_new (w : World) (cs : Array Value) (t : TypeId) (s n c : Nat) (h : cs.size = n * s) (hc : n ≤ c) (hm : c ≤ 1073741824) : SlN (w.alloc (.cells cs t)) (.slice (some ⟨w.heap.size, 0, none⟩) n c) s n cs.toList := by
  refine ⟨by rw [Array.length_toList, h], .inr ⟨_, _, c, rfl, hc, by unfold maxLen; omega, by simp, fun i u hu => ?_⟩⟩
  rw [Nat.zero_add, (Blk.new w t cs).cell i]
  rw [Array.getElem?_toList] at hu
  exact hu
/-- What a grown world keeps below the base. -/
theorem below_grown {B : Nat} {w0 w w' : World} {base : Nat} {e : TypeId} {size n : Nat} {v : Value} {xs : List Value} (h : Below B w0 w) (hown : w.ownsRow base e size v n xs) (hg : w.grownBy w' v.ownBlock) (hB : B ≤ base) (hw : B ≤ w.heap.size) : Below B w0 w' :=
  h.grown hg hw fun k hk => Nat.le_trans hB (hown.lt k hk).1
end Go.Proofs.Ythppeaelfcmafaa
