/- Words for memory: a slice that reads as a list of cells; what stays. Own work. -/
import Derived.Test.YthppeaelfcmafaaBv
import Derived.Below
import Derived.Deep.Draws
namespace Go.Proofs.Ythppeaelfcmafaa
open Go.RowKit
set_option linter.unusedVariables false

/-- The slice value v of n elements of s cells each reads as the cells xs. -/
def SlN (w : World) (v : Value) (s n : Nat) (xs : List Value) : Prop :=
  xs.length = n * s ∧ ((∃ a c, v = .slice a 0 c ∧ n = 0) ∨
    ∃ b o c, v = .slice (some ⟨b, o, none⟩) n c ∧ n ≤ c ∧ c ≤ maxLen ∧ b < w.heap.size ∧ ∀ i u, xs[i]? = some u → w.cell? ⟨b, o + i, none⟩ = some u)
/-- Elements of one cell. -/
def Sl (w : World) (v : Value) (xs : List Value) : Prop := SlN w v 1 xs.length xs
theorem SlN.below {w w' : World} {v : Value} {s n : Nat} {xs : List Value} (h : SlN w v s n xs) {B : Nat} (hb : Below B w w') (hB : w.heap.size ≤ B) : SlN w' v s n xs := by
  obtain ⟨h1, h2⟩ := h
  refine ⟨h1, ?_⟩
  rcases h2 with h2 | ⟨b, o, c, e1, e2, e3, e4, e5⟩
  · exact .inl h2
  · refine .inr ⟨b, o, c, e1, e2, e3, Nat.lt_of_lt_of_le e4 hb.size, fun i u hu => ?_⟩
    rw [hb.cell (p := ⟨b, o + i, none⟩) (by show b < B; omega)]
    exact e5 i u hu
theorem Sl.below {w w' : World} {v : Value} {xs : List Value} (h : Sl w v xs) (hb : Below w.heap.size w w') : Sl w' v xs := SlN.below h hb (Nat.le_refl _)
theorem Sl.cases {w : World} {v : Value} {xs : List Value} (h : Sl w v xs) :
    (∃ a c, v = .slice a 0 c ∧ xs = []) ∨ ∃ b o c, v = .slice (some ⟨b, o, none⟩) xs.length c ∧ xs.length ≤ c ∧ c ≤ maxLen ∧ b < w.heap.size ∧ ∀ i u, xs[i]? = some u → w.cell? ⟨b, o + i, none⟩ = some u := by
  rcases h.2 with ⟨a, c, e1, e2⟩ | h2
  · exact .inl ⟨a, c, e1, List.eq_nil_of_length_eq_zero e2⟩
  · exact .inr h2
theorem Sl.form1 {α : Type} {f : α → Value} {w : World} {v : Value} {xs : List α} (h : Sl w v (xs.map f)) : ∃ a c, v = .slice a xs.length c := by
  rcases h.cases with ⟨a', c', e, e2⟩ | ⟨b, o, c', e, _⟩
  · have : xs = [] := by simpa using e2
    exact ⟨a', c', by rw [e, this]; rfl⟩
  · exact ⟨_, c', by rw [e, List.length_map]⟩
theorem Sl.nil (w : World) : Sl w (.slice none 0 0) [] := ⟨rfl, .inl ⟨_, _, rfl, rfl⟩⟩
/-- What a world that is as another one below a block's number keeps, as the walk asks for it. -/
theorem bcell {W w1 : World} (hb : Below W.heap.size W w1) : (∀ b o, b < W.heap.size → w1.cell? ⟨b, o, none⟩ = W.cell? ⟨b, o, none⟩) ∧ (∀ b o, b < W.heap.size → w1.frozen? ⟨b, o, none⟩ = W.frozen? ⟨b, o, none⟩) :=
  ⟨fun b o h => hb.cell (p := ⟨b, o, none⟩) h, fun b o h => hb.frozen (p := ⟨b, o, none⟩) h⟩
/-- Block b is just the cells cs. -/
def Blk (w : World) (b : Nat) (t : TypeId) (cs : Array Value) : Prop := w.heap[b]? = some (.cells cs t (0, 0))
theorem Blk.lt {w : World} {b : Nat} {t : TypeId} {cs : Array Value} (h : Blk w b t cs) : b < w.heap.size := by
  rcases Nat.lt_or_ge b w.heap.size with hl | hl
  · exact hl
  · unfold Blk at h; rw [Array.getElem?_eq_none hl] at h; cases h
theorem Blk.cell {w : World} {b : Nat} {t : TypeId} {cs : Array Value} (h : Blk w b t cs) (i : Nat) : w.cell? ⟨b, i, none⟩ = cs[i]? := cell_of_row w b i cs t (0, 0) h
theorem Blk.frozen {w : World} {b : Nat} {t : TypeId} {cs : Array Value} (h : Blk w b t cs) (i : Nat) : w.frozen? ⟨b, i, none⟩ = false := frozen_of_row w b i cs t h
theorem Blk.setSame {w : World} {b : Nat} {t : TypeId} {cs : Array Value} (h : Blk w b t cs) (i : Nat) (u : Value) : Blk (w.setCell ⟨b, i, none⟩ u) b t (cs.setIfInBounds i u) := heap_setCell_same w b i cs t u h
theorem Blk.below {w w' : World} {b : Nat} {t : TypeId} {cs : Array Value} (h : Blk w b t cs) {B : Nat} (hb : Below B w w') (hB : b < B) : Blk w' b t cs := (hb.block b hB).trans h
theorem Blk.new (w : World) (t : TypeId) (cs : Array Value) : Blk (w.alloc (.cells cs t)) w.heap.size t cs := heap_alloc_new w _
theorem addr_add (b o k : Nat) : (⟨b, o, none⟩ : Addr).add k = ⟨b, o + k, none⟩ := Addr.add_lit b o k
/-- Where a part of a slice begins (at the very end of the capacity the old address stays). -/
def cutA (a : Option Addr) (cap lo s : Nat) : Option Addr := if cap = lo then a else a.map (·.add (lo * s))
@[go_sem ↓ high] theorem sliced_cutA (a : Option Addr) (l h m s : Nat) : sliced a l h m s = .slice (cutA a m l s) (h - l) (m - l) := rfl
/-- A part of a slice of one-cell elements. -/
theorem Sl.cut {w : World} {a : Option Addr} {n c : Nat} {xs : List Value} (h : Sl w (.slice a n c) xs) {lo hi : Nat} (h1 : lo ≤ hi) (h2 : hi ≤ n) {A : Option Addr} {c' : Nat}
    (hA' : A = cutA a c lo 1) (hc : c' = c - lo) : Sl w (.slice A (hi - lo) c') ((xs.take hi).drop lo) := by
  have hA : A = if c = lo then a else a.map (·.add lo) := by rw [hA']; unfold cutA; simp
  have hn : xs.length = n := by
    rcases h.cases with ⟨a', c'', e, rfl⟩ | ⟨b, o, c'', e, _⟩
    · injection e with _ e2 _; rw [e2]; rfl
    · injection e with _ e2 _; exact e2.symm
  have hl : ((xs.take hi).drop lo).length = hi - lo := by rw [List.length_drop, List.length_take]; omega
  refine ⟨by simp, ?_⟩
  rw [hl]
  by_cases h0 : hi - lo = 0
  · exact .inl ⟨A, c', by rw [h0], h0⟩
  · rcases h.cases with ⟨a', c'', e, rfl⟩ | ⟨b, o, c'', e, e2, e3, e4, e5⟩
    · simp at hn; omega
    · injection e with g1 g2 g3
      subst g1 g3
      rw [if_neg (by omega)] at hA
      subst hA
      refine .inr ⟨b, o + lo, c', by rw [Option.map_some, addr_add], by omega, by omega, e4, fun i u hu => ?_⟩
      rw [Nat.add_assoc]
      apply e5
      rw [List.getElem?_drop] at hu
      have hlt : lo + i < hi := by
        rcases Nat.lt_or_ge (lo + i) hi with g | g
        · exact g
        · rw [List.getElem?_eq_none (by rw [List.length_take]; omega)] at hu; cases hu
      rw [List.getElem?_take_of_lt hlt] at hu
      exact hu
theorem Sl.len {w : World} {a : Option Addr} {n c : Nat} {xs : List Value} (h : Sl w (.slice a n c) xs) : xs.length = n := by
  rcases h.cases with ⟨a', c'', e, rfl⟩ | ⟨b, o, c'', e, _⟩
  · injection e with _ e2 _; rw [e2]; rfl
  · injection e with _ e2 _; exact e2.symm
theorem Sl.cap_le {w : World} {a : Option Addr} {n c : Nat} {xs : List Value} (h : Sl w (.slice a n c) xs) : n ≤ c := by
  rcases h.cases with ⟨a', c'', e, rfl⟩ | ⟨b, o, c'', e, e2, _⟩
  · injection e with _ e2 _; omega
  · injection e with _ e2 e3; omega
@[go_sem high] theorem min_nat {P : Program} {w : World} (ts : Array TypeId) (t : TypeId) (k k' : IntKind) (x y : Nat) : (Builtin.min_ ts t #[.int k (x : Int), .int k' (y : Int)]).run P w = .ok (.int k ((min x y : Nat) : Int)) w := by
  rw [run_min_int2]
  congr 2
  split <;> omega
@[go_sem high] theorem max_nat {P : Program} {w : World} (ts : Array TypeId) (t : TypeId) (k k' : IntKind) (x y : Nat) : (Builtin.max_ ts t #[.int k (x : Int), .int k' (y : Int)]).run P w = .ok (.int k ((max x y : Nat) : Int)) w := by
  rw [run_max_int2]
  congr 2
  split <;> omega
theorem Sl.at_ {w : World} {a : Option Addr} {n c : Nat} {xs : List Value} (h : Sl w (.slice a n c) xs) {k : Nat} (hk : k < n) :
    ∃ b o, a = some ⟨b, o, none⟩ ∧ b < w.heap.size ∧ ∀ u, xs[k]? = some u → w.cell? ⟨b, o + k, none⟩ = some u := by
  rcases h.cases with ⟨a', c'', e, rfl⟩ | ⟨b, o, c'', e, e2, e3, e4, e5⟩
  · injection e with _ e2 _; omega
  · injection e with g1 g2 g3
    exact ⟨b, o, g1, e4, e5 k⟩
theorem Blk.alloc {w : World} {b : Nat} {t : TypeId} {cs : Array Value} (h : Blk w b t cs) (o : Obj) : Blk (w.alloc o) b t cs := (Below.heap_alloc w o b h.lt).trans h
end Go.Proofs.Ythppeaelfcmafaa
