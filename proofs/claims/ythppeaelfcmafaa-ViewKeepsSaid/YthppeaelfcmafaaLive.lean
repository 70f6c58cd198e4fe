/- What a call keeps: the memory that came in, and blocks of its own that lie as told. Own work. -/
import Derived.Test.YthppeaelfcmafaaMem
namespace Go.Proofs.Ythppeaelfcmafaa
open Go.RowKit
set_option linter.unusedVariables false
/-- Since w0: what lay below is as it was, and these blocks of the call's own lie as told. -/
def Live (w0 w : World) (L : List (Nat × TypeId × Array Value)) : Prop :=
  Below w0.heap.size w0 w ∧ ∀ x ∈ L, w0.heap.size ≤ x.1 ∧ Blk w x.1 x.2.1 x.2.2
theorem Below.drewN0 {B : Nat} {a w : World} (h : Below B a w) (n : Nat) : Below B a (w.drewN n) := ⟨h.os, h.tape, h.output, h.size, h.block⟩
theorem Live.start (w : World) : Live w w [] := ⟨Below.refl _ _, fun x hx => absurd hx (List.not_mem_nil)⟩
theorem Live.below {w0 w : World} {L : List (Nat × TypeId × Array Value)} (h : Live w0 w L) : Below w0.heap.size w0 w := h.1
theorem Live.size {w0 w : World} {L : List (Nat × TypeId × Array Value)} (h : Live w0 w L) : w0.heap.size ≤ w.heap.size := h.1.size
theorem Live.call {w0 w w' : World} {L : List (Nat × TypeId × Array Value)} (h : Live w0 w L) (hb : Below w.heap.size w w') : Live w0 w' L :=
  ⟨h.1.trans (hb.mono h.1.size), fun x hx => ⟨(h.2 x hx).1, (h.2 x hx).2.below hb (h.2 x hx).2.lt⟩⟩
theorem Live.alloc {w0 w : World} {L : List (Nat × TypeId × Array Value)} (h : Live w0 w L) (cs : Array Value) (t : TypeId) : Live w0 (w.alloc (.cells cs t)) ((w.heap.size, t, cs) :: L) := by
  refine ⟨h.1.alloc h.1.size _, fun x hx => ?_⟩
  rcases List.mem_cons.1 hx with rfl | hx
  · exact ⟨h.1.size, Blk.new _ _ _⟩
  · exact ⟨(h.2 x hx).1, (h.2 x hx).2.alloc _⟩
/-- A new block that is not told. -/
theorem Live.alloc' {w0 w : World} {L : List (Nat × TypeId × Array Value)} (h : Live w0 w L) (o : Obj) : Live w0 (w.alloc o) L :=
  ⟨h.1.alloc h.1.size _, fun x hx => ⟨(h.2 x hx).1, (h.2 x hx).2.alloc _⟩⟩
theorem Live.drewN {w0 w : World} {L : List (Nat × TypeId × Array Value)} (h : Live w0 w L) (n : Nat) : Live w0 (w.drewN n) L :=
  ⟨Below.drewN0 h.1 n, fun x hx => ⟨(h.2 x hx).1, (h.2 x hx).2⟩⟩
theorem Live.drew {w0 w : World} {L : List (Nat × TypeId × Array Value)} (h : Live w0 w L) : Live w0 w.drew L :=
  ⟨h.1.drew, fun x hx => ⟨(h.2 x hx).1, (h.2 x hx).2⟩⟩
theorem Live.tail {w0 w : World} {x : Nat × TypeId × Array Value} {L : List (Nat × TypeId × Array Value)} (h : Live w0 w (x :: L)) : Live w0 w L := ⟨h.1, fun y hy => h.2 y (List.mem_cons_of_mem _ hy)⟩
theorem Live.sub {w0 w : World} {L M : List (Nat × TypeId × Array Value)} (h : Live w0 w L) (hs : ∀ x ∈ M, x ∈ L) : Live w0 w M := ⟨h.1, fun y hy => h.2 y (hs y hy)⟩
theorem Live.c0 {w0 w : World} {b : Nat} {t : TypeId} {cs : Array Value} {L : List (Nat × TypeId × Array Value)} (h : Live w0 w ((b, t, cs) :: L)) (i : Nat) : w.cell? ⟨b, i, none⟩ = cs[i]? := (h.2 _ (List.mem_cons_self)).2.cell i
theorem Live.f0 {w0 w : World} {b : Nat} {t : TypeId} {cs : Array Value} {L : List (Nat × TypeId × Array Value)} (h : Live w0 w ((b, t, cs) :: L)) (i : Nat) : w.frozen? ⟨b, i, none⟩ = false := (h.2 _ (List.mem_cons_self)).2.frozen i
theorem Live.l0 {w0 w : World} {b : Nat} {t : TypeId} {cs : Array Value} {L : List (Nat × TypeId × Array Value)} (h : Live w0 w ((b, t, cs) :: L)) : b < w.heap.size := (h.2 _ (List.mem_cons_self)).2.lt
theorem Live.g0 {w0 w : World} {b : Nat} {t : TypeId} {cs : Array Value} {L : List (Nat × TypeId × Array Value)} (h : Live w0 w ((b, t, cs) :: L)) : w0.heap.size ≤ b := (h.2 _ (List.mem_cons_self)).1
/-- A store into the first told block, the others being other ones. -/
theorem Live.set0 {w0 w : World} {b : Nat} {t : TypeId} {cs : Array Value} {L : List (Nat × TypeId × Array Value)} (h : Live w0 w ((b, t, cs) :: L)) (hne : ∀ x ∈ L, x.1 ≠ b) (i : Nat) (u : Value) : Live w0 (w.setCell ⟨b, i, none⟩ u) ((b, t, cs.setIfInBounds i u) :: L) := by
  refine ⟨h.1.setCell (p := ⟨b, i, none⟩) h.g0 u, fun x hx => ?_⟩
  rcases List.mem_cons.1 hx with rfl | hx
  · exact ⟨h.g0, ((h.2 _ (List.mem_cons_self)).2).setSame i u⟩
  · exact ⟨(h.2 x (List.mem_cons_of_mem _ hx)).1, (heap_setCell_other w ⟨b, i, none⟩ x.1 u (hne x hx)).trans (h.2 x (List.mem_cons_of_mem _ hx)).2⟩
/-- A store into a block of the call's own that is not told. -/
theorem Live.setO {w0 w : World} {b : Nat} {L : List (Nat × TypeId × Array Value)} (h : Live w0 w L) (hb : w0.heap.size ≤ b) (hne : ∀ x ∈ L, x.1 ≠ b) (i : Nat) (u : Value) : Live w0 (w.setCell ⟨b, i, none⟩ u) L :=
  ⟨h.1.setCell (p := ⟨b, i, none⟩) hb u, fun x hx => ⟨(h.2 x hx).1, (heap_setCell_other w ⟨b, i, none⟩ x.1 u (hne x hx)).trans (h.2 x hx).2⟩⟩
theorem Live.callB {w0 w w' : World} {L : List (Nat × TypeId × Array Value)} (h : Live w0 w L) {B : Nat} (hb : Below B w w') (h0 : w0.heap.size ≤ B) (hL : ∀ x ∈ L, x.1 < B) : Live w0 w' L :=
  ⟨h.1.trans (hb.mono h0), fun x hx => ⟨(h.2 x hx).1, (h.2 x hx).2.below hb (hL x hx)⟩⟩
end Go.Proofs.Ythppeaelfcmafaa
