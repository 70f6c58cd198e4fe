/- Texts of this claim, laid together (part 5): walks of functions, what they compute, and plain laws of it. Own work. -/
import Derived.Test.YtmcaomdjlepapaaDoorRows
import Derived.ProofKit
import Derived.LaidMore
import Derived.OpenShut
import Derived.Stop.Joined
import Derived.Test.YtmcaomdjlepapaaDoorM4HashBuckets
/- The readers of pointers and roots. Own work. -/
namespace Go.Proofs.YtmcaomdjlepapaaDoor
open Go.RowKit Go.ChangeShapes Go.WideShapes Go.ChangeAt
set_option linter.unusedVariables false
set_option linter.unusedSimpArgs false
set_option maxRecDepth 100000
section
variable {H : Type} {enc : TypeId × Value → H} {w : World} {base : Nat} {sp : Nat → Bool} {held : Bool}
def Pt.wf (p : Pt) : Prop := I64ok p.line ∧ I64ok p.gen
def Rt.wf (r : Rt) : Prop := I64ok r.depth
theorem c2_Pt : Tryd.prog.cellsOf 27 = 2 := by kernel_rfl
theorem c11_Rt : Tryd.prog.cellsOf 30 = 11 := by kernel_rfl
theorem c8_A4 : Tryd.prog.cellsOf 28 = 4 * 2 := by kernel_rfl
theorem rds_Pt : Rds enc Tryd.prog w base sp held 27 tPt Pt.wf := by
  intro fuel cs x h
  obtain ⟨xs, n, _, _, hlen, hxs, hf⟩ := DataW.trod_struct Tryd.underlying27 h
  rw [c2_Pt] at hlen
  match cs, hlen with
  | [c0, c1], _ =>
    match xs, hxs with
    | [x0, x1], _ =>
      have f0 : DataW.trod enc Tryd.prog w base sp held n 3 (([c0, c1].drop 0).take (Tryd.prog.cellsOf 3)) = some x0 := hf 0 _ rfl
      have f1 : DataW.trod enc Tryd.prog w base sp held n 3 (([c0, c1].drop 1).take (Tryd.prog.cellsOf 3)) = some x1 := hf 1 _ rfl
      rw [c9_int] at f0 f1
      obtain ⟨a, g0, o0, w0⟩ := (rds_i64 Tryd.underlying3) _ _ _ f0
      obtain ⟨b, g1, o1, w1⟩ := (rds_i64 Tryd.underlying3) _ _ _ f1
      exact ⟨⟨a, b⟩, g0.append g1, ones_app o0 o1, w0, w1⟩
theorem rds_Rt : Rds enc Tryd.prog w base sp held 30 tRt Rt.wf := by
  intro fuel cs x h
  obtain ⟨xs, n, _, _, hlen, hxs, hf⟩ := DataW.trod_struct Tryd.underlying30 h
  rw [c11_Rt] at hlen
  match cs, hlen with
  | [c0, c1, c2, c3, c4, c5, c6, c7, c8, c9, c10], _ =>
    match xs, hxs with
    | [x0, x1, x2], _ =>
      have f0 : DataW.trod enc Tryd.prog w base sp held n 27 (([c0, c1, c2, c3, c4, c5, c6, c7, c8, c9, c10].drop 0).take (Tryd.prog.cellsOf 27)) = some x0 := hf 0 _ rfl
      have f1 : DataW.trod enc Tryd.prog w base sp held n 3 (([c0, c1, c2, c3, c4, c5, c6, c7, c8, c9, c10].drop 2).take (Tryd.prog.cellsOf 3)) = some x1 := hf 1 _ rfl
      have f2 : DataW.trod enc Tryd.prog w base sp held n 28 (([c0, c1, c2, c3, c4, c5, c6, c7, c8, c9, c10].drop 3).take (Tryd.prog.cellsOf 28)) = some x2 := hf 2 _ rfl
      rw [c2_Pt] at f0
      rw [c9_int] at f1
      rw [c8_A4] at f2
      obtain ⟨p, g0, o0, _⟩ := rds_Pt _ _ _ f0
      obtain ⟨d, g1, o1, w1⟩ := (rds_i64 Tryd.underlying3) _ _ _ f1
      obtain ⟨⟨ds, hl⟩, g2, o2, _⟩ := (rds_array Tryd.underlying28 (T := tPt) c2_Pt c8_A4 rfl rds_Pt) _ _ _ f2
      match ds, hl with
      | [d0, d1, d2, d3], _ => exact ⟨⟨p, d, d0, d1, d2, d3⟩, (g0.append g1).append g2, ones_app (ones_app o0 o1) o2, w1⟩
end
end Go.Proofs.YtmcaomdjlepapaaDoor

/- The readers of entries and buckets. Own work. -/
namespace Go.Proofs.YtmcaomdjlepapaaDoor
open Go.RowKit Go.ChangeShapes Go.WideShapes Go.ChangeAt
set_option linter.unusedVariables false
set_option linter.unusedSimpArgs false
set_option maxRecDepth 100000
section
variable {H : Type} {enc : TypeId × Value → H} {w : World} {base : Nat} {sp : Nat → Bool} {held : Bool}
def En.wf (e : En) : Prop := True
def Bk.wf (b : Bk) : Prop := I64ok b.depth
theorem c3_En : Tryd.prog.cellsOf 65 = 3 := by kernel_rfl
theorem c5_Bk : Tryd.prog.cellsOf 63 = 5 := by kernel_rfl
theorem c1_u32 : Tryd.prog.cellsOf 60 = 1 := by kernel_rfl
theorem c1_sEn : Tryd.prog.cellsOf 61 = 1 := by kernel_rfl
theorem rds_En : Rds enc Tryd.prog w base sp held 65 tEn En.wf := by
  intro fuel cs x h
  obtain ⟨xs, n, _, _, hlen, hxs, hf⟩ := DataW.trod_struct Tryd.underlying65 h
  rw [c3_En] at hlen
  match cs, hlen with
  | [c0, c1, c2], _ =>
    match xs, hxs with
    | [x0, x1], _ =>
      have f0 : DataW.trod enc Tryd.prog w base sp held n 60 (([c0, c1, c2].drop 0).take (Tryd.prog.cellsOf 60)) = some x0 := hf 0 _ rfl
      have f1 : DataW.trod enc Tryd.prog w base sp held n 27 (([c0, c1, c2].drop 1).take (Tryd.prog.cellsOf 27)) = some x1 := hf 1 _ rfl
      rw [c1_u32] at f0
      rw [c2_Pt] at f1
      obtain ⟨a, g0, o0, _⟩ := (rds_u32 Tryd.underlying60) _ _ _ f0
      obtain ⟨b, g1, o1, _⟩ := rds_Pt _ _ _ f1
      exact ⟨⟨a, b⟩, g0.append g1, ones_app o0 o1, trivial⟩
theorem rds_Bk : Rds enc Tryd.prog w base sp held 63 tBk Bk.wf := by
  intro fuel cs x h
  obtain ⟨xs, n, _, _, hlen, hxs, hf⟩ := DataW.trod_struct Tryd.underlying63 h
  rw [c5_Bk] at hlen
  match cs, hlen with
  | [c0, c1, c2, c3, c4], _ =>
    match xs, hxs with
    | [x0, x1, x2, x3], _ =>
      have f0 : DataW.trod enc Tryd.prog w base sp held n 3 (([c0, c1, c2, c3, c4].drop 0).take (Tryd.prog.cellsOf 3)) = some x0 := hf 0 _ rfl
      have f1 : DataW.trod enc Tryd.prog w base sp held n 60 (([c0, c1, c2, c3, c4].drop 1).take (Tryd.prog.cellsOf 60)) = some x1 := hf 1 _ rfl
      have f2 : DataW.trod enc Tryd.prog w base sp held n 27 (([c0, c1, c2, c3, c4].drop 2).take (Tryd.prog.cellsOf 27)) = some x2 := hf 2 _ rfl
      have f3 : DataW.trod enc Tryd.prog w base sp held n 61 (([c0, c1, c2, c3, c4].drop 4).take (Tryd.prog.cellsOf 61)) = some x3 := hf 3 _ rfl
      rw [c9_int] at f0
      rw [c1_u32] at f1
      rw [c2_Pt] at f2
      rw [c1_sEn] at f3
      obtain ⟨a, g0, o0, w0⟩ := (rds_i64 Tryd.underlying3) _ _ _ f0
      obtain ⟨b, g1, o1, _⟩ := (rds_u32 Tryd.underlying60) _ _ _ f1
      obtain ⟨p, g2, o2, _⟩ := rds_Pt _ _ _ f2
      obtain ⟨es, g3, o3, _⟩ := (rds_slice Tryd.underlying61 c3_En rfl rds_En) _ _ _ f3
      exact ⟨⟨a, b, p, es⟩, ((g0.append g1).append g2).append g3, ones_app (ones_app (ones_app o0 o1) o2) o3, w0⟩
end
end Go.Proofs.YtmcaomdjlepapaaDoor

/- What the tied card's premise gives: the package variable's cells. Own work. -/
namespace Go.Proofs.YtmcaomdjlepapaaDoor
open Go.ChangeShapes Go.WideShapes Go.ChangeAt Go.WideMaps Go.WideElems Go.RowKit
set_option linter.unusedVariables false
set_option linter.unusedSimpArgs false
set_option maxRecDepth 100000
@[reducible] def laidN {H : Type} : List (String × DataW H) := [("bodega/hashindex.none", Rows.laid_bodega_hashindex_none)]
theorem gNamed : Tryd.prog.globalNamed "bodega/hashindex.none" = some 0 := by kernel_rfl
theorem tNamed : (Tryd.prog.globals[0]?).map (·.type) = some 27 := by kernel_rfl
theorem door_met (os : Os) (args : Array Value) : laidMetH Tryd.prog (laidN (H := Unit)) ((World.doorLaid Tryd.prog 14 os).forCall (fun _ _ => 0) ⟨#[], args, []⟩).memory :=
  laidMetH_of_parts3 (fuel := 8) (laidMet_of_run' 8 (by kernel_rfl) (by kernel_rfl)) (by kernel_rfl) (by kernel_rfl)
theorem of_laid {W : World} (h : laidMetH Tryd.prog (laidN (H := Unit)) W) : W.cell? ⟨0, 0, none⟩ = some (.int .i64 0) ∧ W.cell? ⟨0, 1, none⟩ = some (.int .i64 0) := by
  rw [MakeChecks.laidMetH_plain _ _ _ (by kernel_rfl)] at h
  obtain ⟨ps, ⟨g0, t0, cs0, f0, p0, q0, hg0, ht0, hv0, hd0, _⟩, _⟩ := h
  obtain rfl := Option.some.inj (gNamed.symm.trans hg0)
  obtain rfl := Option.some.inj (tNamed.symm.trans ht0)
  obtain ⟨xs, n, e1, e2, hlen, hxs, hf⟩ := DataW.trod_struct Tryd.underlying27 hd0
  rw [c2_Pt] at hlen
  obtain ⟨l⟩ := cs0
  dsimp only at hlen hf
  match l, hlen with
  | [c0, c1], _ =>
    match xs, hxs with
    | [x0, x1], _ =>
      have f0 : DataW.trod _ Tryd.prog W 0 _ false n 3 (([c0, c1].drop 0).take (Tryd.prog.cellsOf 3)) = some x0 := hf 0 _ rfl
      have f1 : DataW.trod _ Tryd.prog W 0 _ false n 3 (([c0, c1].drop 1).take (Tryd.prog.cellsOf 3)) = some x1 := hf 1 _ rfl
      rw [c9_int] at f0 f1
      obtain ⟨a, q1, q2, _⟩ := DataW.trod_int Tryd.underlying3 f0
      obtain ⟨b, q3, q4, _⟩ := DataW.trod_int Tryd.underlying3 f1
      simp only [Rows.laid_bodega_hashindex_none, Prod.mk.injEq, DataW.agg.injEq, List.map_cons, List.map_nil, List.cons.injEq] at e2
      have ha : a = 0 := by rw [q2] at e2; simpa using e2.1.1.symm
      have hb : b = 0 := by rw [q4] at e2; simpa using e2.1.2.1.symm
      subst ha hb
      have k0 := World.var?_cell hg0 hv0 0
      have k1 := World.var?_cell hg0 hv0 1
      simp at q1 q3
      subst q1 q3
      exact ⟨by simpa using k0, by simpa using k1⟩
/-- The fact that the contracts lean on. -/
theorem none_ok {W : World} (h : laidMetH Tryd.prog (laidN (H := Unit)) W) : (IsRef (tPt.cells Pt.nil)).ok (phi W) (.pointer (some ⟨0, 0, none⟩)) := by
  obtain ⟨h0, h1⟩ := of_laid h
  refine ⟨0, 0, rfl, fun j B hj => ?_⟩
  match j, hj with
  | 0, hj => injection hj with hj; subst hj; exact ⟨_, h0, rfl, rfl⟩
  | 1, hj => injection hj with hj; subst hj; exact ⟨_, h1, rfl, rfl⟩
end Go.Proofs.YtmcaomdjlepapaaDoor
