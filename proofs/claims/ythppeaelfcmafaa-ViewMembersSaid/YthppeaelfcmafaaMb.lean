/- Members of a view: their cells, their slices, their lists. Own work. -/
import Derived.Test.YthppeaelfcmafaaMem
namespace Go.Proofs.Ythppeaelfcmafaa
open Go.RowKit
set_option linter.unusedVariables false
/-- A member. -/
structure Mb where
  n : Int
  b : Int
  f : Bool
  deriving DecidableEq
def Mb.cells (m : Mb) : List Value := [.int .i64 m.n, .int .i64 m.b, .bool m.f]
def Mb.val (m : Mb) : Value := .agg #[.int .i64 m.n, .int .i64 m.b, .bool m.f]
/-- The member at a place. -/
def Mb.at (ms : List Mb) (k : Nat) : Mb := ms.getD k ⟨0, 0, false⟩
theorem Mb.at_get (ms : List Mb) (k : Nat) (h : k < ms.length) : ms[k]? = some (Mb.at ms k) := by
  unfold Mb.at
  rw [List.getD_eq_getElem?_getD, List.getElem?_eq_getElem h]
  rfl
theorem Mb.at_eq (ms : List Mb) (k : Nat) (h : k < ms.length) : ms[k] = Mb.at ms k := by
  have h1 := Mb.at_get ms k h
  rw [List.getElem?_eq_getElem h] at h1
  exact Option.some.inj h1
theorem Mb.ext_at (xs ys : List Mb) (hl : xs.length = ys.length) (h : ∀ k, k < xs.length → Mb.at xs k = Mb.at ys k) : xs = ys := by
  apply List.ext_getElem hl
  intro i h1 h2
  rw [Mb.at_eq _ _ h1, Mb.at_eq _ _ h2]
  exact h i h1
/-- A slice that reads as members. -/
def SlM (w : World) (v : Value) (ms : List Mb) : Prop := SlN w v 3 ms.length (ms.flatMap Mb.cells)
theorem mcells_get (ms : List Mb) (k j : Nat) (hk : k < ms.length) (hj : j < 3) : (ms.flatMap Mb.cells)[k * 3 + j]? = ((Mb.at ms k).cells)[j]? := by
  induction ms generalizing k with
  | nil => simp at hk
  | cons p ms ih =>
    rw [List.flatMap_cons]
    cases k with
    | zero => rw [List.getElem?_append_left (by simp [Mb.cells]; omega)]; simp [Mb.at]
    | succ k =>
      rw [List.getElem?_append_right (by simp [Mb.cells]; omega)]
      have e : (k + 1) * 3 + j - p.cells.length = k * 3 + j := by simp [Mb.cells]; omega
      rw [e, ih k (by simpa using hk)]
      simp [Mb.at]
/-- The three cells of a member at an address. -/
def MbAt (w : World) (b o : Nat) (m : Mb) : Prop :=
  w.cell? ⟨b, o, none⟩ = some (.int .i64 m.n) ∧ w.cell? ⟨b, o + 1, none⟩ = some (.int .i64 m.b) ∧ w.cell? ⟨b, o + 2, none⟩ = some (.bool m.f)
theorem SlM.len {w : World} {a : Option Addr} {n c : Nat} {ms : List Mb} (h : SlM w (.slice a n c) ms) : ms.length = n := by
  rcases h.2 with ⟨a', c', e, e2⟩ | ⟨b, o, c', e, _⟩
  · injection e with _ e3 _; omega
  · injection e with _ e3 _; exact e3.symm
theorem SlM.form {w : World} {v : Value} {ms : List Mb} (h : SlM w v ms) : ∃ a c, v = .slice a ms.length c := by
  rcases h.2 with ⟨a', c', e, e2⟩ | ⟨b, o, c', e, _⟩
  · exact ⟨a', c', by rw [e, e2]⟩
  · exact ⟨_, c', e⟩
theorem SlM.small {w : World} {v : Value} {ms : List Mb} (h : SlM w v ms) : ms.length ≤ maxLen := by
  rcases h.2 with ⟨a', c', e, e2⟩ | ⟨b, o, c', e, e2, e3, _⟩ <;> omega
theorem SlM.at_ {w : World} {a : Option Addr} {n c : Nat} {ms : List Mb} (h : SlM w (.slice a n c) ms) {k : Nat} (hk : k < n) :
    ∃ b o, a = some ⟨b, o, none⟩ ∧ b < w.heap.size ∧ ∀ j, j < n → MbAt w b (o + j * 3) (Mb.at ms j) := by
  have hl := h.len
  rcases h.2 with ⟨a', c', e, e2⟩ | ⟨b, o, c', e, e2, e3, e4, e5⟩
  · omega
  · injection e with g1 g2 g3
    refine ⟨b, o, g1, e4, fun i hi => ?_⟩
    have g : ∀ j, j < 3 → ∀ u, ((Mb.at ms i).cells)[j]? = some u → w.cell? ⟨b, o + i * 3 + j, none⟩ = some u := fun j hj u hu => by
      rw [Nat.add_assoc]
      exact e5 _ u ((mcells_get ms i j (by omega) hj).trans hu)
    exact ⟨g 0 (by omega) _ rfl, g 1 (by omega) _ rfl, g 2 (by omega) _ rfl⟩
theorem SlM.below {w w' : World} {v : Value} {ms : List Mb} (h : SlM w v ms) (hb : Below w.heap.size w w') : SlM w' v ms := SlN.below h hb (Nat.le_refl _)
theorem SlM.alloc {w : World} {v : Value} {ms : List Mb} (h : SlM w v ms) (o : Obj) : SlM (w.alloc o) v ms := h.below ((Below.refl _ _).alloc (Nat.le_refl _) o)
theorem SlM.drew1 {w : World} {v : Value} {ms : List Mb} (h : SlM w v ms) : SlM w.drew v ms := h
theorem SlM.nil (w : World) : SlM w (.slice none 0 0) [] := ⟨rfl, .inl ⟨_, _, rfl, rfl⟩⟩
theorem MbAt.below {w w' : World} {b o : Nat} {m : Mb} {B : Nat} (h : MbAt w b o m) (hb : Below B w w') (hB : b < B) : MbAt w' b o m := by
  have k : ∀ x, w'.cell? ⟨b, x, none⟩ = w.cell? ⟨b, x, none⟩ := fun x => hb.cell (p := ⟨b, x, none⟩) hB
  unfold MbAt at *
  simp only [k]
  exact h
theorem Below.drewN' {B : Nat} {a w : World} (h : Below B a w) (n : Nat) : Below B a (w.drewN n) := ⟨h.os, h.tape, h.output, h.size, h.block⟩
theorem box_below (w : World) (o : Obj) : Below w.heap.size w (w.alloc o) := (Below.refl _ _).alloc (Nat.le_refl _) _
/-- The value of a view. -/
def viewV (num : Int) (v : Value) : Value := .agg #[.int .i64 num, v]
end Go.Proofs.Ythppeaelfcmafaa
