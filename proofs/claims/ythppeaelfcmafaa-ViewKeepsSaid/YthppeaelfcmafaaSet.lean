/- A cell of an owned row is written: the row's list after it. Own work. -/
import Derived.Test.YthppeaelfcmafaaApp
import Derived.Test.YthppeaelfcmafaaMb
namespace Go.Proofs.Ythppeaelfcmafaa
open Go.RowKit
set_option linter.unusedVariables false
theorem flat_set {α : Type} (f : α → List Value) (s : Nat) (hf : ∀ a, (f a).length = s) (xs : List α) : ∀ (k : Nat) (a a' : α) (j : Nat) (u : Value), xs[k]? = some a → j < s → (f a).set j u = f a' →
    (xs.flatMap f).set (k * s + j) u = (xs.set k a').flatMap f := by
  induction xs with
  | nil => intro k a a' j u h _ _; simp at h
  | cons x xs ih =>
    intro k a a' j u h hj hu
    cases k with
    | zero =>
      simp only [List.getElem?_cons_zero, Option.some.injEq] at h
      subst h
      rw [List.flatMap_cons, Nat.zero_mul, Nat.zero_add, List.set_append_left _ _ (by rw [hf]; exact hj), hu]
      simp
    | succ k =>
      rw [List.getElem?_cons_succ] at h
      rw [List.flatMap_cons, List.set_append_right _ _ (by rw [hf, Nat.add_mul]; omega), List.set_cons_succ, List.flatMap_cons, ← ih k a a' j u h hj hu, hf]
      congr 2
      rw [Nat.add_mul]
      omega
theorem own_setcell {w : World} {base : Nat} {e : TypeId} {size n g cap : Nat} {xs : List Value} (h : w.ownsRow base e size (.slice (some ⟨g, 0, none⟩) n cap) n xs) (i : Nat) (hi : i < n * size) (u : Value) :
    (w.setCell ⟨g, i, none⟩ u).ownsRow base e size (.slice (some ⟨g, 0, none⟩) n cap) n (xs.set i u) := by
  obtain ⟨h1, h2⟩ := h
  refine ⟨by rw [List.length_set]; exact h1, ?_⟩
  rcases h2 with ⟨e1, _⟩ | ⟨g', cap', cur, e1, e2, e3, e4, e5, e6, e7⟩
  · cases e1
  · injection e1 with f1 f2 f3
    injection f1 with f1
    injection f1 with f1 _ _
    subst f1 f3
    refine .inr ⟨g, cap, cur.setIfInBounds i u, rfl, e2, heap_setCell_same w g i cur e u e3, e4, e5, by simpa using e6, ?_⟩
    rw [Array.toList_setIfInBounds, ← e7, List.take_set]
theorem own_set_ne {w : World} {base : Nat} {e : TypeId} {size n g cap : Nat} {xs : List Value} (h : w.ownsRow base e size (.slice (some ⟨g, 0, none⟩) n cap) n xs) {b : Nat} (hb : b ≠ g) (i : Nat) (u : Value) :
    (w.setCell ⟨b, i, none⟩ u).ownsRow base e size (.slice (some ⟨g, 0, none⟩) n cap) n xs := by
  refine ⟨h.1, ?_⟩
  rcases h.2 with h2 | ⟨g', cap', cur, e1, e2, e3, e4⟩
  · exact .inl h2
  · injection e1 with f1 f2 f3
    injection f1 with f1
    injection f1 with f1 _ _
    subst f1 f3
    exact .inr ⟨g, cap, cur, rfl, e2, (heap_setCell_other w ⟨b, i, none⟩ g u (by show g ≠ b; omega)).trans e3, e4⟩
theorem own_cellAt {w : World} {base : Nat} {e : TypeId} {size n g cap : Nat} {xs : List Value} (h : w.ownsRow base e size (.slice (some ⟨g, 0, none⟩) n cap) n xs) (j : Nat) (hj : j < n * size) : w.cell? ⟨g, j, none⟩ = xs[j]? := World.ownsRow.cellAt h j hj
theorem own_frozenAt {w : World} {base : Nat} {e : TypeId} {size n g cap : Nat} {xs : List Value} (h : w.ownsRow base e size (.slice (some ⟨g, 0, none⟩) n cap) n xs) (j : Nat) : w.frozen? ⟨g, j, none⟩ = false := World.ownsRow.frozenAt h j
/-- A row that is not empty lies in a block of its own. -/
theorem own_some {w : World} {base : Nat} {e : TypeId} {size n : Nat} {v : Value} {xs : List Value} (h : w.ownsRow base e size v n xs) (hn : 0 < n) : ∃ g c, v = .slice (some ⟨g, 0, none⟩) n c ∧ base ≤ g ∧ g < w.heap.size := by
  rcases h.2 with ⟨_, h0⟩ | ⟨g, cap, cur, rfl, h1, h2, _⟩
  · omega
  · refine ⟨g, cap, rfl, h1, ?_⟩
    rcases Nat.lt_or_ge g w.heap.size with hl | hl
    · exact hl
    · rw [Array.getElem?_eq_none hl] at h2; cases h2
theorem own_mono {w : World} {base base' : Nat} {e : TypeId} {size n : Nat} {v : Value} {xs : List Value} (h : w.ownsRow base e size v n xs) (hb : base' ≤ base) : w.ownsRow base' e size v n xs := by
  refine ⟨h.1, ?_⟩
  rcases h.2 with h2 | ⟨g, cap, cur, rfl, h1, h2⟩
  · exact .inl h2
  · exact .inr ⟨g, cap, cur, rfl, by omega, h2⟩
theorem sl_new' (w : World) (cs : Array Value) (t : TypeId) (s n c b : Nat) (hb : b = w.heap.size) (h : cs.size = n * s) (hc : n ≤ c) (hm : c ≤ 1073741824) : SlN (w.alloc (.cells cs t)) (.slice (some ⟨b, 0, none⟩) n c) s n cs.toList := by
  subst hb; exact sl_new w cs t s n c h hc hm
def Mb.setN (ms : List Mb) (k : Nat) (x : Int) : List Mb := ms.set k { Mb.at ms k with n := x }
def Mb.setB (ms : List Mb) (k : Nat) (x : Int) : List Mb := ms.set k { Mb.at ms k with b := x }
def Mb.setF (ms : List Mb) (k : Nat) (x : Bool) : List Mb := ms.set k { Mb.at ms k with f := x }
theorem Mb.flat_setN (ms : List Mb) (k : Nat) (x : Int) (hk : k < ms.length) : (ms.flatMap Mb.cells).set (k * 3) (.int .i64 x) = (Mb.setN ms k x).flatMap Mb.cells :=
  flat_set Mb.cells 3 (fun _ => rfl) ms k _ _ 0 _ (Mb.at_get ms k hk) (by omega) rfl
theorem Mb.flat_setB (ms : List Mb) (k : Nat) (x : Int) (hk : k < ms.length) : (ms.flatMap Mb.cells).set (k * 3 + 1) (.int .i64 x) = (Mb.setB ms k x).flatMap Mb.cells :=
  flat_set Mb.cells 3 (fun _ => rfl) ms k _ _ 1 _ (Mb.at_get ms k hk) (by omega) rfl
theorem Mb.flat_setF (ms : List Mb) (k : Nat) (x : Bool) (hk : k < ms.length) : (ms.flatMap Mb.cells).set (k * 3 + 2) (.bool x) = (Mb.setF ms k x).flatMap Mb.cells :=
  flat_set Mb.cells 3 (fun _ => rfl) ms k _ _ 2 _ (Mb.at_get ms k hk) (by omega) rfl
theorem Mb.setN_len (ms : List Mb) (k : Nat) (x : Int) : (Mb.setN ms k x).length = ms.length := by unfold Mb.setN; exact List.length_set
theorem Mb.setB_len (ms : List Mb) (k : Nat) (x : Int) : (Mb.setB ms k x).length = ms.length := by unfold Mb.setB; exact List.length_set
theorem Mb.setF_len (ms : List Mb) (k : Nat) (x : Bool) : (Mb.setF ms k x).length = ms.length := by unfold Mb.setF; exact List.length_set
theorem Mb.cell_at {w : World} {base : Nat} {e : TypeId} {n g cap : Nat} {ms : List Mb} (h : w.ownsRow base e 3 (.slice (some ⟨g, 0, none⟩) n cap) n (ms.flatMap Mb.cells)) (k : Nat) (hk : k < ms.length) (hn : n = ms.length) : MbAt w g (k * 3) (Mb.at ms k) := by
  have c : ∀ j, j < 3 → w.cell? ⟨g, k * 3 + j, none⟩ = ((Mb.at ms k).cells)[j]? := fun j hj => by
    rw [own_cellAt h (k * 3 + j) (by rw [hn]; omega), mcells_get ms k j hk hj]
  exact ⟨c 0 (by omega), c 1 (by omega), c 2 (by omega)⟩
end Go.Proofs.Ythppeaelfcmafaa
