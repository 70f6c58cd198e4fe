/- A region that draws its order, walked once over a class of worlds. Own work. -/
import Derived.Test.YtiababibapcmnaaMem
import Derived.Deep.QuietTactic
import Derived.StillTailTactics
namespace Go.Proofs.Ytiababibapcmnaa
open Go.RowKit
/-- The worlds that are as w0 was below block B. -/
def Cls (B : Nat) (w0 : World) (w : World) : Prop := Below B w0 w
theorem wp_region_cls {P : Program} {id : Nat} {Q : Exit → Act → World → Prop} {a : Act} {w : World} {l : List Oper} (C : World → Prop) (hm : P.follows .mixedOrders = true) (hB : Region.lexB .any l.toArray = true)
    (hC : C w.drew) (h : wpQuiet P l.toArray C (fun a' => ∀ w', C w' → Q .normal a' w') l a) : (Code.region id l.toArray true).wp P Q a w :=
  wp_region_quiet (C := C) hm hB hC (by simpa using h)
theorem Cls.start (w : World) : Cls w.heap.size w w.drew := (Below.refl _ _).drew
theorem Cls.step {B : Nat} {w0 w w' : World} (h : Cls B w0 w) (hb : Below w.heap.size w w') (hB : B ≤ w0.heap.size) : Cls B w0 w' := by
  unfold Cls at *
  exact h.trans (hb.mono (Nat.le_trans hB h.size))
theorem wp_region_tail {P : Program} {id : Nat} {Q : Exit → Act → World → Prop} {a : Act} {w : World} {l : List Oper} (n : Nat) (hm : P.follows .mixedOrders = true) (hB : Region.lexTailB .any l.toArray n = true)
    (h : wpStill P l.toArray w.drew (fun a' => wpList P l.toArray Q (l.drop n) a' w.drew) (l.take n) a) : (Code.region id l.toArray true).wp P Q a w :=
  wp_region_still_tail n hm hB h
end Go.Proofs.Ytiababibapcmnaa
