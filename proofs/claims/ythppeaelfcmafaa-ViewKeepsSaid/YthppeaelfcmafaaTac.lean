/- Steps for chains of worlds: what a block holds, what lay below, what a slice reads, step by step back to where it is known. Own work. -/
import Derived.Test.YthppeaelfcmafaaApp
import Derived.Test.YthppeaelfcmafaaLive
import Derived.Lib.Hide
namespace Go.Proofs.Ythppeaelfcmafaa
open Go.RowKit
set_option linter.unusedVariables false
theorem Below.alloc1 {w W : World} (h : Below w.heap.size w W) (o : Obj) : Below w.heap.size w (W.alloc o) := h.alloc h.size o
theorem Below.setCell1 {w W : World} {b : Nat} (hb : w.heap.size ≤ b) (h : Below w.heap.size w W) (i : Nat) (u : Value) : Below w.heap.size w (W.setCell ⟨b, i, none⟩ u) := h.setCell (p := ⟨b, i, none⟩) hb u
theorem Below.call1 {w W w' : World} (h : Below w.heap.size w W) (hb : Below W.heap.size W w') : Below w.heap.size w w' := h.trans (hb.mono h.size)
theorem Below.drewN1 {w W : World} (h : Below w.heap.size w W) (n : Nat) : Below w.heap.size w (W.drewN n) := Below.drewN0 h n
theorem Blk.alloc1 {w : World} {b : Nat} {t : TypeId} {cs : Array Value} (h : Blk w b t cs) (o : Obj) : Blk (w.alloc o) b t cs := h.alloc o
theorem Blk.setNe {w : World} {b : Nat} {t : TypeId} {cs : Array Value} {b' : Nat} (hne : b ≠ b') (h : Blk w b t cs) (i : Nat) (u : Value) : Blk (w.setCell ⟨b', i, none⟩ u) b t cs := (heap_setCell_other w ⟨b', i, none⟩ b u hne).trans h
theorem Blk.call1 {w w' : World} {b : Nat} {t : TypeId} {cs : Array Value} (h : Blk w b t cs) (hb : Below w.heap.size w w') : Blk w' b t cs := h.below hb h.lt
theorem Blk.drew1 {w : World} {b : Nat} {t : TypeId} {cs : Array Value} (h : Blk w b t cs) : Blk w.drew b t cs := h
theorem Blk.drewN1 {w : World} {b : Nat} {t : TypeId} {cs : Array Value} (h : Blk w b t cs) (n : Nat) : Blk (w.drewN n) b t cs := h
theorem Blk.new1 (w : World) (t : TypeId) (cs : Array Value) {b : Nat} (hb : b = w.heap.size) : Blk (w.alloc (.cells cs t)) b t cs := by subst hb; exact Blk.new w t cs
/-- What lay in w is as it was (a name of its own, so that a chain does not jump over the blocks between). -/
structure Kept (w w' : World) : Prop where
  out : Below w.heap.size w w'
theorem Kept.of {w w' : World} (h : Below w.heap.size w w') : Hid (Kept w w') := Kept.mk h
theorem Below.lt1 {W w' : World} (hb : Below W.heap.size W w') : ∀ k, k < W.heap.size → k < w'.heap.size := fun k h => Nat.lt_of_lt_of_le h hb.size
theorem cutq {a b : Prop} (h : a) (h2 : a → b) : b := h2 h
/-- Where the block of a slice that is not empty lies. -/
def InB (v : Value) (lo hi : Nat) : Prop := ∀ a n c, v = .slice (some a) n c → 0 < n → lo ≤ a.block ∧ a.block < hi
/-- A slice that reads as cells, its block between lo and hi. -/
def Rng (w : World) (v : Value) (s n : Nat) (xs : List Value) (lo hi : Nat) : Prop := SlN w v s n xs ∧ InB v lo hi ∧ hi ≤ w.heap.size
theorem Rng.alloc1 {w : World} {v : Value} {s n : Nat} {xs : List Value} {lo hi : Nat} (h : Rng w v s n xs lo hi) (o : Obj) : Rng (w.alloc o) v s n xs lo hi :=
  ⟨h.1.below ((Below.refl _ _).alloc (Nat.le_refl _) o) (Nat.le_refl _), h.2.1, by rw [World.size_alloc]; exact Nat.le_succ_of_le h.2.2⟩
theorem Rng.call1 {w w' : World} {v : Value} {s n : Nat} {xs : List Value} {lo hi : Nat} (h : Rng w v s n xs lo hi) (hb : Below w.heap.size w w') : Rng w' v s n xs lo hi := ⟨h.1.below hb (Nat.le_refl _), h.2.1, Nat.le_trans h.2.2 hb.size⟩
theorem Rng.drew1 {w : World} {v : Value} {s n : Nat} {xs : List Value} {lo hi : Nat} (h : Rng w v s n xs lo hi) : Rng w.drew v s n xs lo hi := h
theorem Rng.drewN1 {w : World} {v : Value} {s n : Nat} {xs : List Value} {lo hi : Nat} (h : Rng w v s n xs lo hi) (m : Nat) : Rng (w.drewN m) v s n xs lo hi := h
theorem Rng.setNe {w : World} {v : Value} {s n : Nat} {xs : List Value} {lo hi : Nat} {b : Nat} (hb : b < lo ∨ hi ≤ b) (h : Rng w v s n xs lo hi) (i : Nat) (u : Value) : Rng (w.setCell ⟨b, i, none⟩ u) v s n xs lo hi := by
  obtain ⟨⟨h1, h2⟩, h3, h4⟩ := h
  refine ⟨⟨h1, ?_⟩, h3, by rw [World.size_setCell]; exact h4⟩
  rcases h2 with h2 | ⟨g, o, c, rfl, e1, e2, e3, e4⟩
  · exact .inl h2
  rcases Nat.eq_zero_or_pos n with h0 | h0
  · exact .inl ⟨_, _, by rw [h0], h0⟩
  · have hg := h3 _ _ _ rfl h0
    dsimp only at hg
    refine .inr ⟨g, o, c, rfl, e1, e2, by rw [World.size_setCell]; exact e3, fun j y hy => ?_⟩
    rw [World.cell?_setCell_other _ _ _ _ (by intro e; have := congrArg Addr.block e; simp at this; omega)]
    exact e4 j y hy
theorem Rng.sln {w : World} {v : Value} {s n : Nat} {xs : List Value} {lo hi : Nat} (h : Rng w v s n xs lo hi) : SlN w v s n xs := h.1
theorem Rng.of_own {w : World} {base : Nat} {e : TypeId} {s n : Nat} {v : Value} {xs : List Value} (h : w.ownsRow base e s v n xs) : Rng w v s n xs base w.heap.size := by
  refine ⟨own_sl h, ?_, Nat.le_refl _⟩
  intro a m c hv hm
  rcases h.2 with ⟨e1, e2⟩ | ⟨g, cap, cur, e1, h1, h2, _⟩
  · rw [e1] at hv; cases hv
  · rw [e1] at hv
    injection hv with f1 f2 f3
    injection f1 with f1
    subst f1
    refine ⟨h1, ?_⟩
    rcases Nat.lt_or_ge g w.heap.size with hl | hl
    · exact hl
    · rw [Array.getElem?_eq_none hl] at h2; cases h2
end Go.Proofs.Ythppeaelfcmafaa
