/- From the frame's readings to pages. Own work. -/
import Derived.Test.YtiababibapcmnaaOpen
import Derived.Test.YtiababibapcmnaaPg
import Derived.OpenShut
namespace Go.Proofs.Ytiababibapcmnaa
open Go.RowKit Go.ChangeShapes Go.WideShapes Go.ChangeAt
set_option linter.unusedVariables false
section
variable {H : Type} {enc : TypeId × Value → H} {w : World} {base : Nat} {held : Bool}
theorem cu64 : Try.prog.cellsOf 22 = 1 := by kernel_rfl
theorem ci64 : Try.prog.cellsOf 3 = 1 := by kernel_rfl
theorem cA7 : Try.prog.cellsOf 23 = 7 := by kernel_rfl
theorem cPg : Try.prog.cellsOf 25 = 9 := by kernel_rfl
theorem page_of_trod {sp : Nat → Bool} {fuel : Nat} {cs : List Value} {x : DataW H × List MemPlace} (h : DataW.trod enc Try.prog w base sp held fuel 25 cs = some x) : ∃ p : Pg, cs = p.cells := by
  obtain ⟨xs, n, _, _, hlen, hxs, hf⟩ := DataW.trod_struct Try.underlying25 h
  rw [cPg] at hlen
  match cs, hlen with
  | [c0, c1, c2, c3, c4, c5, c6, c7, c8], _ =>
    match xs, hxs with
    | [x0, x1, x2], _ =>
      have f0 : DataW.trod enc Try.prog w base sp held n 3 (([c0, c1, c2, c3, c4, c5, c6, c7, c8].drop 0).take (Try.prog.cellsOf 3)) = some x0 := hf 0 _ rfl
      have f1 : DataW.trod enc Try.prog w base sp held n 22 (([c0, c1, c2, c3, c4, c5, c6, c7, c8].drop 1).take (Try.prog.cellsOf 22)) = some x1 := hf 1 _ rfl
      have f2 : DataW.trod enc Try.prog w base sp held n 23 (([c0, c1, c2, c3, c4, c5, c6, c7, c8].drop 2).take (Try.prog.cellsOf 23)) = some x2 := hf 2 _ rfl
      rw [ci64] at f0
      rw [cu64] at f1
      rw [cA7] at f2
      obtain ⟨l, e0, _, _⟩ := DataW.trod_int Try.underlying3 f0
      obtain ⟨hh, e1, _, w1⟩ := DataW.trod_int Try.underlying22 f1
      obtain ⟨ys, m, _, _, _, hys, hg⟩ := DataW.trod_array Try.underlying23 f2
      match ys, hys with
      | [y0, y1, y2, y3, y4, y5, y6], _ =>
        have g0 : DataW.trod enc Try.prog w base sp held m 22 (((([c0, c1, c2, c3, c4, c5, c6, c7, c8].drop 2).take 7).drop (0 * Try.prog.cellsOf 22)).take (Try.prog.cellsOf 22)) = some y0 := hg 0 (by omega)
        have g1 : DataW.trod enc Try.prog w base sp held m 22 (((([c0, c1, c2, c3, c4, c5, c6, c7, c8].drop 2).take 7).drop (1 * Try.prog.cellsOf 22)).take (Try.prog.cellsOf 22)) = some y1 := hg 1 (by omega)
        have g2 : DataW.trod enc Try.prog w base sp held m 22 (((([c0, c1, c2, c3, c4, c5, c6, c7, c8].drop 2).take 7).drop (2 * Try.prog.cellsOf 22)).take (Try.prog.cellsOf 22)) = some y2 := hg 2 (by omega)
        have g3 : DataW.trod enc Try.prog w base sp held m 22 (((([c0, c1, c2, c3, c4, c5, c6, c7, c8].drop 2).take 7).drop (3 * Try.prog.cellsOf 22)).take (Try.prog.cellsOf 22)) = some y3 := hg 3 (by omega)
        have g4 : DataW.trod enc Try.prog w base sp held m 22 (((([c0, c1, c2, c3, c4, c5, c6, c7, c8].drop 2).take 7).drop (4 * Try.prog.cellsOf 22)).take (Try.prog.cellsOf 22)) = some y4 := hg 4 (by omega)
        have g5 : DataW.trod enc Try.prog w base sp held m 22 (((([c0, c1, c2, c3, c4, c5, c6, c7, c8].drop 2).take 7).drop (5 * Try.prog.cellsOf 22)).take (Try.prog.cellsOf 22)) = some y5 := hg 5 (by omega)
        have g6 : DataW.trod enc Try.prog w base sp held m 22 (((([c0, c1, c2, c3, c4, c5, c6, c7, c8].drop 2).take 7).drop (6 * Try.prog.cellsOf 22)).take (Try.prog.cellsOf 22)) = some y6 := hg 6 (by omega)
        rw [cu64] at g0 g1 g2 g3 g4 g5 g6
        obtain ⟨n0, q0, _, v0⟩ := DataW.trod_int Try.underlying22 g0
        obtain ⟨n1, q1, _, v1⟩ := DataW.trod_int Try.underlying22 g1
        obtain ⟨n2, q2, _, v2⟩ := DataW.trod_int Try.underlying22 g2
        obtain ⟨n3, q3, _, v3⟩ := DataW.trod_int Try.underlying22 g3
        obtain ⟨n4, q4, _, v4⟩ := DataW.trod_int Try.underlying22 g4
        obtain ⟨n5, q5, _, v5⟩ := DataW.trod_int Try.underlying22 g5
        obtain ⟨n6, q6, _, v6⟩ := DataW.trod_int Try.underlying22 g6
        obtain ⟨bh, rfl⟩ := u64_of_wf w1
        obtain ⟨b0, rfl⟩ := u64_of_wf v0
        obtain ⟨b1, rfl⟩ := u64_of_wf v1
        obtain ⟨b2, rfl⟩ := u64_of_wf v2
        obtain ⟨b3, rfl⟩ := u64_of_wf v3
        obtain ⟨b4, rfl⟩ := u64_of_wf v4
        obtain ⟨b5, rfl⟩ := u64_of_wf v5
        obtain ⟨b6, rfl⟩ := u64_of_wf v6
        simp at e0 e1 q0 q1 q2 q3 q4 q5 q6
        subst e0 e1 q0 q1 q2 q3 q4 q5 q6
        exact ⟨⟨l, bh, b0, b1, b2, b3, b4, b5, b6⟩, rfl⟩
theorem open_page {r : Reach} {b0 : Nat} {sp : Nat → Bool} {v : Value} {d : DataW H} {ps : List MemPlace} (hval : Value.okWide Try.prog w r b0 25 v) (h : DataW.Trod enc Try.prog w base sp held 25 v d ps) : ∃ p : Pg, v = p.val := by
  obtain ⟨cs, rfl, _⟩ := okWide_struct Try.underlying25 hval
  obtain ⟨fuel, hf⟩ := h
  obtain ⟨p, hp⟩ := page_of_trod hf
  refine ⟨p, ?_⟩
  have : cs.toList = p.cells := hp
  have e : cs = p.cells.toArray := by rw [← this]
  rw [e]; rfl
end
end Go.Proofs.Ytiababibapcmnaa
