/- ViewValues: the law returns true for every input and leaves its arguments as they were. No condition. Own work; the row's step goes the kit's way. -/
import Derived.Test.YthppeaelfcmafaaRows
import Derived.WalkKit
import Derived.ProofKit
import Derived.OpenShut
import Derived.ShutString
import Derived.ChangeOld
import Derived.Below
import Derived.Test.YthppeaelfcmafaaVr
import Derived.Test.YthppeaelfcmafaaVf
import Derived.Test.YthppeaelfcmafaaVj
import Derived.Test.YthppeaelfcmafaaVk
import Derived.Test.YthppeaelfcmafaaVm
import Derived.Test.YthppeaelfcmafaaTac
import Derived.Deep.DeepCutAuto
namespace Go.Proofs.Ythppeaelfcmafaa.viewValues
open Go.ChangeShapes Go.WideShapes Go.ChangeAt Go.RowKit
set_option linter.unusedVariables false

theorem own : ownKnob Try.prog.godebug = none := by kernel_rfl
theorem laidOut : laidOutB Try.prog = true := by kernel_rfl

set_option maxRecDepth 100000 in
set_option maxHeartbeats 8000000 in
theorem walk (a0 : GRaw) (a1 : Int) (a2 : BitVec 64) (a3 : Int) (a4 : Int) (w : World) (k0 : GRaw.ok w a0) (lo1 : -9223372036854775808 ≤ a1) (hi1 : a1 ≤ 9223372036854775807) (lo3 : -9223372036854775808 ≤ a3) (hi3 : a3 ≤ 9223372036854775807) (lo4 : -9223372036854775808 ≤ a4) (hi4 : a4 ≤ 9223372036854775807) :
    Calls Try.prog 3 #[.agg (GRaw.cells a0).toArray, .int .i64 a1, .int .u64 (UV a2), .int .i64 a3, .int .i64 a4] w fun e w' => e = .returned (.bool true) ∧ Below w.heap.size w w' := by
  have OF1 := Lib.hid (fun W (h : GRaw.ok W a0) => of_ex a0 W h)
  have K0 := Lib.hid k0
  clear k0
  obtain ⟨m1, m2, m3, m4, m5, m6, m7⟩ := a0
  unfold GRaw.cells at *
  dsimp only at *
  have hm7 := K0.out.2.2.2.2.2.1
  dsimp only at hm7
  obtain ⟨pa, pc, rfl⟩ : ∃ a c, m6 = .slice a m7.length c := Sl.form1 hm7
  clear hm7
  have L0 : Hid (Kept w (w.alloc (.cells #[.int .i64 m1, .int .i64 m2, .int .i64 m3, .int .i64 m4, .int .i64 m5, .slice pa m7.length pc] 24))) := Kept.of (by repeat (first | exact Below.refl _ _ | exact Kept.out (Hid.out (by assumption)) | exact Hid.out (by assumption) | with_reducible refine Below.drew ?_ | with_reducible refine Below.drewN1 ?_ _ | with_reducible refine Below.alloc1 ?_ _ | with_reducible refine Below.setCell1 ?_ (by first | omega | (simp; done) | (simp; omega)) _ _ | refine Below.call1 ?_ (Hid.out (by assumption))))
  by_cases h8 : m7.length ≤ 8
  case neg =>
    have h8' : (8 : Int) < (m7.length : Int) := by omega
    clear h8
    go_enter Try.func3, Try.ntmps3
    go_wp2
    go_ret
    exact ⟨rfl, L0.out.out⟩
  have h8' : ¬ (8 : Int) < (m7.length : Int) := by omega
  clear h8
  go_enter Try.func3, Try.ntmps3
  go_wp2_with fail
  refine (OF1.out _ (GRaw.below K0.out (by repeat (first | exact Below.refl _ _ | exact Kept.out (Hid.out (by assumption)) | exact Hid.out (by assumption) | with_reducible refine Below.drew ?_ | with_reducible refine Below.drewN1 ?_ _ | with_reducible refine Below.alloc1 ?_ _ | with_reducible refine Below.setCell1 ?_ (by first | omega | (simp; done) | (simp; omega)) _ _ | refine Below.call1 ?_ (Hid.out (by assumption)))))).mono ?_
  rintro e w1 ⟨n, s, ms, rfl, ho, hl, hb⟩
  obtain ⟨fa, fc, rfl⟩ := own_form ho
  have S1 := Lib.hid (own_slm ho)
  have hb1 := Lib.hid hb
  have K1 : Hid (Kept w w1) := Kept.of (by repeat (first | exact Below.refl _ _ | exact Kept.out (Hid.out (by assumption)) | exact Hid.out (by assumption) | with_reducible refine Below.drew ?_ | with_reducible refine Below.drewN1 ?_ _ | with_reducible refine Below.alloc1 ?_ _ | with_reducible refine Below.setCell1 ?_ (by first | omega | (simp; done) | (simp; omega)) _ _ | refine Below.call1 ?_ (Hid.out (by assumption))))
  clear ho hb h8'
  go_wp2_with fail
  refine (Pick_ex _ _ _ (by decide) (by decide)).mono ?_
  rintro e w' ⟨r, rfl, p1, q1, _, rfl⟩
  obtain ⟨x, hx⟩ : ∃ x, x = valueV n ms := ⟨_, rfl⟩
  have V1 := Lib.hid (fun W (h : SlM W (.slice fa ms.length fc) ms) => Value_any n _ ms W h)
  have V2 := Lib.hid (fun W (h : SlM W (.slice fa ms.length fc) ms) => ValueR_any n _ ms W h (by omega))
  rw [← hx] at V1 V2
  clear hx
  obtain ⟨x, z⟩ := x
  dsimp only at V1 V2
  go_wp2_with fail
  refine (V1.out _ (by repeat (first | exact Hid.out (by assumption) | with_reducible refine SlM.drew1 ?_ | with_reducible refine SlM.alloc ?_ _ | refine SlM.below ?_ (Hid.out (by assumption))))).mono ?_
  rintro e w2 ⟨rfl, hb⟩
  have hb2 := Lib.hid hb
  clear hb
  have q2 : Hid (Blk w2 w1.heap.size 28 #[.int .i64 n, .slice fa ms.length fc]) := by show Blk _ _ _ _; repeat (first | exact Hid.out (by assumption) | with_reducible refine Blk.drew1 ?_ | with_reducible refine Blk.drewN1 ?_ _ | with_reducible exact Blk.new _ _ _ | with_reducible refine Blk.setSame ?_ _ _ | with_reducible refine Blk.setNe ?_ (by first | omega | (simp; done) | (simp; omega)) _ _ | with_reducible refine Blk.new1 _ _ _ (by first | rfl | (simp; done)) | with_reducible refine Blk.alloc1 ?_ _ | refine Blk.call1 ?_ (Hid.out (by assumption)))
  have c2 := q2.out.cell
  have c2l := q2.out.lt
  go_wp2_with fail
  refine (V2.out _ (by repeat (first | exact Hid.out (by assumption) | with_reducible refine SlM.drew1 ?_ | with_reducible refine SlM.alloc ?_ _ | refine SlM.below ?_ (Hid.out (by assumption))))).mono ?_
  rintro e w3 ⟨rfl, hb⟩
  have hb3 := Lib.hid hb
  clear hb c2 V1 V2
  have q3 : Hid (Blk w3 w1.heap.size 28 #[.int .i64 n, .slice fa ms.length fc]) := by show Blk _ _ _ _; repeat (first | exact Hid.out (by assumption) | with_reducible refine Blk.drew1 ?_ | with_reducible refine Blk.drewN1 ?_ _ | with_reducible exact Blk.new _ _ _ | with_reducible refine Blk.setSame ?_ _ _ | with_reducible refine Blk.setNe ?_ (by first | omega | (simp; done) | (simp; omega)) _ _ | with_reducible refine Blk.new1 _ _ _ (by first | rfl | (simp; done)) | with_reducible refine Blk.alloc1 ?_ _ | refine Blk.call1 ?_ (Hid.out (by assumption)))
  have K3 : Hid (Kept w w3) := Kept.of (by repeat (first | exact Below.refl _ _ | exact Kept.out (Hid.out (by assumption)) | exact Hid.out (by assumption) | with_reducible refine Below.drew ?_ | with_reducible refine Below.drewN1 ?_ _ | with_reducible refine Below.alloc1 ?_ _ | with_reducible refine Below.setCell1 ?_ (by first | omega | (simp; done) | (simp; omega)) _ _ | refine Below.call1 ?_ (Hid.out (by assumption))))
  go_wp2_with fail
  refine (awake_any _).mono ?_
  rintro e w4 ⟨rfl, hb⟩
  have hb4 := Lib.hid hb
  clear hb
  have q4 : Hid (Blk w4 w1.heap.size 28 #[.int .i64 n, .slice fa ms.length fc]) := by show Blk _ _ _ _; repeat (first | exact Hid.out (by assumption) | with_reducible refine Blk.drew1 ?_ | with_reducible refine Blk.drewN1 ?_ _ | with_reducible exact Blk.new _ _ _ | with_reducible refine Blk.setSame ?_ _ _ | with_reducible refine Blk.setNe ?_ (by first | omega | (simp; done) | (simp; omega)) _ _ | with_reducible refine Blk.new1 _ _ _ (by first | rfl | (simp; done)) | with_reducible refine Blk.alloc1 ?_ _ | refine Blk.call1 ?_ (Hid.out (by assumption)))
  have c4 := q4.out.cell
  have c4l := q4.out.lt
  have K4 : Hid (Kept w w4) := Kept.of (by repeat (first | exact Below.refl _ _ | exact Kept.out (Hid.out (by assumption)) | exact Hid.out (by assumption) | with_reducible refine Below.drew ?_ | with_reducible refine Below.drewN1 ?_ _ | with_reducible refine Below.alloc1 ?_ _ | with_reducible refine Below.setCell1 ?_ (by first | omega | (simp; done) | (simp; omega)) _ _ | refine Below.call1 ?_ (Hid.out (by assumption))))
  go_upto_region 8 with (fail)
  go_cut [13] (fun s13 wx => ∃ x' : BitVec 64, s13 = .int .u64 (UV x') ∧ wx = w4)
  case first =>
    go_wp2_with (go_at_call 10; refine (Pick_ex _ _ _ (by decide) (by decide)).mono ?_; rintro e w' ⟨r, rfl, p1, q1, _, rfl⟩)
    go_meet
    exact ⟨_, rfl, rfl⟩
  case rest =>
  obtain ⟨x', rfl, rfl⟩ := hcut
  have PA := Lib.hid (fun W => Parse_any n x' (r - 1) W)
  have PB := Lib.hid (fun W => ParseView_any n x' (r - 1) W)
  obtain ⟨y, hy⟩ : ∃ y, y = parseV n x' (r - 1) := ⟨_, rfl⟩
  rw [← hy] at PA PB
  clear hy
  obtain ⟨yn, yl, yc⟩ := y
  have PC := Lib.hid (fun W => Parse_any a1 a2 a3 W)
  have PD := Lib.hid (fun W => ParseView_any a1 a2 a3 W)
  obtain ⟨y, hy⟩ : ∃ y, y = parseV a1 a2 a3 := ⟨_, rfl⟩
  rw [← hy] at PC PD
  clear hy
  obtain ⟨zn, zl, zc⟩ := y
  have PE := Lib.hid (fun W => Initial_any a3 W)
  have PF := Lib.hid (fun W => InitialR_any a3 W)
  generalize initC a3 = uc at PE PF
  generalize initMs a3 = ul at PE PF
  dsimp only at PA PB PC PD
  go_wp2_with fail
  refine (PA.out _).mono ?_
  rintro e v0 ⟨sv, rfl, hs, hb⟩
  obtain ⟨g0, d0, rfl⟩ := hs.form
  have T0 := Lib.hid hs
  have i0 := Lib.hid hb
  have I0 : Hid (Kept w v0) := Kept.of (by repeat (first | exact Below.refl _ _ | exact Kept.out (Hid.out (by assumption)) | exact Hid.out (by assumption) | with_reducible refine Below.drew ?_ | with_reducible refine Below.drewN1 ?_ _ | with_reducible refine Below.alloc1 ?_ _ | with_reducible refine Below.setCell1 ?_ (by first | omega | (simp; done) | (simp; omega)) _ _ | refine Below.call1 ?_ (Hid.out (by assumption))))
  clear hs hb
  clear c4
  have q5 : Hid (Blk v0 w1.heap.size 28 #[.int .i64 n, .slice fa ms.length fc]) := by show Blk _ _ _ _; repeat (first | exact Hid.out (by assumption) | with_reducible refine Blk.drew1 ?_ | with_reducible refine Blk.drewN1 ?_ _ | with_reducible exact Blk.new _ _ _ | with_reducible refine Blk.setSame ?_ _ _ | with_reducible refine Blk.setNe ?_ (by first | omega | (simp; done) | (simp; omega)) _ _ | with_reducible refine Blk.new1 _ _ _ (by first | rfl | (simp; done)) | with_reducible refine Blk.alloc1 ?_ _ | refine Blk.call1 ?_ (Hid.out (by assumption)))
  have c5 := q5.out.cell
  have c5l := q5.out.lt
  go_wp2_with fail
  refine (PB.out _).mono ?_
  rintro e v1 ⟨sv, rfl, hs, hb⟩
  obtain ⟨g1, d1, rfl⟩ := hs.form
  have T1 := Lib.hid hs
  have i1 := Lib.hid hb
  have I1 : Hid (Kept w v1) := Kept.of (by repeat (first | exact Below.refl _ _ | exact Kept.out (Hid.out (by assumption)) | exact Hid.out (by assumption) | with_reducible refine Below.drew ?_ | with_reducible refine Below.drewN1 ?_ _ | with_reducible refine Below.alloc1 ?_ _ | with_reducible refine Below.setCell1 ?_ (by first | omega | (simp; done) | (simp; omega)) _ _ | refine Below.call1 ?_ (Hid.out (by assumption))))
  clear hs hb
  clear c5
  go_wp2_with fail
  refine (PC.out _).mono ?_
  rintro e v2 ⟨sv, rfl, hs, hb⟩
  obtain ⟨g2, d2, rfl⟩ := hs.form
  have T2 := Lib.hid hs
  have i2 := Lib.hid hb
  have I2 : Hid (Kept w v2) := Kept.of (by repeat (first | exact Below.refl _ _ | exact Kept.out (Hid.out (by assumption)) | exact Hid.out (by assumption) | with_reducible refine Below.drew ?_ | with_reducible refine Below.drewN1 ?_ _ | with_reducible refine Below.alloc1 ?_ _ | with_reducible refine Below.setCell1 ?_ (by first | omega | (simp; done) | (simp; omega)) _ _ | refine Below.call1 ?_ (Hid.out (by assumption))))
  clear hs hb
  go_wp2_with fail
  refine (PD.out _).mono ?_
  rintro e v3 ⟨sv, rfl, hs, hb⟩
  obtain ⟨g3, d3, rfl⟩ := hs.form
  have T3 := Lib.hid hs
  have i3 := Lib.hid hb
  have I3 : Hid (Kept w v3) := Kept.of (by repeat (first | exact Below.refl _ _ | exact Kept.out (Hid.out (by assumption)) | exact Hid.out (by assumption) | with_reducible refine Below.drew ?_ | with_reducible refine Below.drewN1 ?_ _ | with_reducible refine Below.alloc1 ?_ _ | with_reducible refine Below.setCell1 ?_ (by first | omega | (simp; done) | (simp; omega)) _ _ | refine Below.call1 ?_ (Hid.out (by assumption))))
  clear hs hb
  go_wp2_with fail
  refine (PE.out _).mono ?_
  rintro e v4 ⟨sv, rfl, hs, hb⟩
  obtain ⟨g4, d4, rfl⟩ := hs.form
  have T4 := Lib.hid hs
  have i4 := Lib.hid hb
  have I4 : Hid (Kept w v4) := Kept.of (by repeat (first | exact Below.refl _ _ | exact Kept.out (Hid.out (by assumption)) | exact Hid.out (by assumption) | with_reducible refine Below.drew ?_ | with_reducible refine Below.drewN1 ?_ _ | with_reducible refine Below.alloc1 ?_ _ | with_reducible refine Below.setCell1 ?_ (by first | omega | (simp; done) | (simp; omega)) _ _ | refine Below.call1 ?_ (Hid.out (by assumption))))
  clear hs hb
  go_wp2_with fail
  refine (PF.out _).mono ?_
  rintro e v5 ⟨sv, rfl, hs, hb⟩
  obtain ⟨g5, d5, rfl⟩ := hs.form
  have T5 := Lib.hid hs
  have i5 := Lib.hid hb
  have I5 : Hid (Kept w v5) := Kept.of (by repeat (first | exact Below.refl _ _ | exact Kept.out (Hid.out (by assumption)) | exact Hid.out (by assumption) | with_reducible refine Below.drew ?_ | with_reducible refine Below.drewN1 ?_ _ | with_reducible refine Below.alloc1 ?_ _ | with_reducible refine Below.setCell1 ?_ (by first | omega | (simp; done) | (simp; omega)) _ _ | refine Below.call1 ?_ (Hid.out (by assumption))))
  clear hs hb
  have x0 : Hid (Blk v5 v0.heap.size 28 #[.int .i64 yn, .slice g0 yl.length d0]) := by show Blk _ _ _ _; repeat (first | exact Hid.out (by assumption) | with_reducible refine Blk.drew1 ?_ | with_reducible refine Blk.drewN1 ?_ _ | with_reducible exact Blk.new _ _ _ | with_reducible refine Blk.setSame ?_ _ _ | with_reducible refine Blk.setNe ?_ (by first | omega | (simp; done) | (simp; omega)) _ _ | with_reducible refine Blk.new1 _ _ _ (by first | rfl | (simp; done)) | with_reducible refine Blk.alloc1 ?_ _ | refine Blk.call1 ?_ (Hid.out (by assumption)))
  have xc0 := x0.out.cell
  have xc0l := x0.out.lt
  have x1 : Hid (Blk v5 v1.heap.size 28 #[.int .i64 yn, .slice g1 yl.length d1]) := by show Blk _ _ _ _; repeat (first | exact Hid.out (by assumption) | with_reducible refine Blk.drew1 ?_ | with_reducible refine Blk.drewN1 ?_ _ | with_reducible exact Blk.new _ _ _ | with_reducible refine Blk.setSame ?_ _ _ | with_reducible refine Blk.setNe ?_ (by first | omega | (simp; done) | (simp; omega)) _ _ | with_reducible refine Blk.new1 _ _ _ (by first | rfl | (simp; done)) | with_reducible refine Blk.alloc1 ?_ _ | refine Blk.call1 ?_ (Hid.out (by assumption)))
  have xc1 := x1.out.cell
  have xc1l := x1.out.lt
  have x2 : Hid (Blk v5 v2.heap.size 28 #[.int .i64 zn, .slice g2 zl.length d2]) := by show Blk _ _ _ _; repeat (first | exact Hid.out (by assumption) | with_reducible refine Blk.drew1 ?_ | with_reducible refine Blk.drewN1 ?_ _ | with_reducible exact Blk.new _ _ _ | with_reducible refine Blk.setSame ?_ _ _ | with_reducible refine Blk.setNe ?_ (by first | omega | (simp; done) | (simp; omega)) _ _ | with_reducible refine Blk.new1 _ _ _ (by first | rfl | (simp; done)) | with_reducible refine Blk.alloc1 ?_ _ | refine Blk.call1 ?_ (Hid.out (by assumption)))
  have xc2 := x2.out.cell
  have xc2l := x2.out.lt
  have x3 : Hid (Blk v5 v3.heap.size 28 #[.int .i64 zn, .slice g3 zl.length d3]) := by show Blk _ _ _ _; repeat (first | exact Hid.out (by assumption) | with_reducible refine Blk.drew1 ?_ | with_reducible refine Blk.drewN1 ?_ _ | with_reducible exact Blk.new _ _ _ | with_reducible refine Blk.setSame ?_ _ _ | with_reducible refine Blk.setNe ?_ (by first | omega | (simp; done) | (simp; omega)) _ _ | with_reducible refine Blk.new1 _ _ _ (by first | rfl | (simp; done)) | with_reducible refine Blk.alloc1 ?_ _ | refine Blk.call1 ?_ (Hid.out (by assumption)))
  have xc3 := x3.out.cell
  have xc3l := x3.out.lt
  have x4 : Hid (Blk v5 v4.heap.size 28 #[.int .i64 0, .slice g4 ul.length d4]) := by show Blk _ _ _ _; repeat (first | exact Hid.out (by assumption) | with_reducible refine Blk.drew1 ?_ | with_reducible refine Blk.drewN1 ?_ _ | with_reducible exact Blk.new _ _ _ | with_reducible refine Blk.setSame ?_ _ _ | with_reducible refine Blk.setNe ?_ (by first | omega | (simp; done) | (simp; omega)) _ _ | with_reducible refine Blk.new1 _ _ _ (by first | rfl | (simp; done)) | with_reducible refine Blk.alloc1 ?_ _ | refine Blk.call1 ?_ (Hid.out (by assumption)))
  have xc4 := x4.out.cell
  have xc4l := x4.out.lt
  have SA := Lib.hid (fun W u v (hu : SlM W u yl) (hv : SlM W v yl) => SameView_any yn yn u v yl yl W hu hv)
  have SB := Lib.hid (fun W u v (hu : SlM W u zl) (hv : SlM W v zl) => SameView_any zn zn u v zl zl W hu hv)
  have SC := Lib.hid (fun W u v (hu : SlM W u ul) (hv : SlM W v ul) => SameView_any 0 0 u v ul ul W hu hv)
  rw [sameV_eq] at SA SB SC
  go_wp2_with fail
  refine (SA.out _ _ _ (by repeat (first | exact Hid.out (by assumption) | with_reducible refine SlM.drew1 ?_ | with_reducible refine SlM.alloc ?_ _ | refine SlM.below ?_ (Hid.out (by assumption)))) (by repeat (first | exact Hid.out (by assumption) | with_reducible refine SlM.drew1 ?_ | with_reducible refine SlM.alloc ?_ _ | refine SlM.below ?_ (Hid.out (by assumption))))).mono ?_
  rintro e u1 ⟨rfl, hb⟩
  have j1 := Lib.hid hb
  clear xc0 xc1 xc2 xc3 xc4
  have y2 : Hid (Blk u1 v2.heap.size 28 #[.int .i64 zn, .slice g2 zl.length d2]) := by show Blk _ _ _ _; repeat (first | exact Hid.out (by assumption) | with_reducible refine Blk.drew1 ?_ | with_reducible refine Blk.drewN1 ?_ _ | with_reducible exact Blk.new _ _ _ | with_reducible refine Blk.setSame ?_ _ _ | with_reducible refine Blk.setNe ?_ (by first | omega | (simp; done) | (simp; omega)) _ _ | with_reducible refine Blk.new1 _ _ _ (by first | rfl | (simp; done)) | with_reducible refine Blk.alloc1 ?_ _ | refine Blk.call1 ?_ (Hid.out (by assumption)))
  have yc2 := y2.out.cell
  have yc2l := y2.out.lt
  have y3 : Hid (Blk u1 v3.heap.size 28 #[.int .i64 zn, .slice g3 zl.length d3]) := by show Blk _ _ _ _; repeat (first | exact Hid.out (by assumption) | with_reducible refine Blk.drew1 ?_ | with_reducible refine Blk.drewN1 ?_ _ | with_reducible exact Blk.new _ _ _ | with_reducible refine Blk.setSame ?_ _ _ | with_reducible refine Blk.setNe ?_ (by first | omega | (simp; done) | (simp; omega)) _ _ | with_reducible refine Blk.new1 _ _ _ (by first | rfl | (simp; done)) | with_reducible refine Blk.alloc1 ?_ _ | refine Blk.call1 ?_ (Hid.out (by assumption)))
  have yc3 := y3.out.cell
  have yc3l := y3.out.lt
  have y4 : Hid (Blk u1 v4.heap.size 28 #[.int .i64 0, .slice g4 ul.length d4]) := by show Blk _ _ _ _; repeat (first | exact Hid.out (by assumption) | with_reducible refine Blk.drew1 ?_ | with_reducible refine Blk.drewN1 ?_ _ | with_reducible exact Blk.new _ _ _ | with_reducible refine Blk.setSame ?_ _ _ | with_reducible refine Blk.setNe ?_ (by first | omega | (simp; done) | (simp; omega)) _ _ | with_reducible refine Blk.new1 _ _ _ (by first | rfl | (simp; done)) | with_reducible refine Blk.alloc1 ?_ _ | refine Blk.call1 ?_ (Hid.out (by assumption)))
  have yc4 := y4.out.cell
  have yc4l := y4.out.lt
  have y5 : Hid (Blk u1 v5.heap.size 28 #[.int .i64 0, .slice g5 ul.length d5]) := by show Blk _ _ _ _; repeat (first | exact Hid.out (by assumption) | with_reducible refine Blk.drew1 ?_ | with_reducible refine Blk.drewN1 ?_ _ | with_reducible exact Blk.new _ _ _ | with_reducible refine Blk.setSame ?_ _ _ | with_reducible refine Blk.setNe ?_ (by first | omega | (simp; done) | (simp; omega)) _ _ | with_reducible refine Blk.new1 _ _ _ (by first | rfl | (simp; done)) | with_reducible refine Blk.alloc1 ?_ _ | refine Blk.call1 ?_ (Hid.out (by assumption)))
  have yc5 := y5.out.cell
  have yc5l := y5.out.lt
  go_wp2_with fail
  refine (SB.out _ _ _ (by repeat (first | exact Hid.out (by assumption) | with_reducible refine SlM.drew1 ?_ | with_reducible refine SlM.alloc ?_ _ | refine SlM.below ?_ (Hid.out (by assumption)))) (by repeat (first | exact Hid.out (by assumption) | with_reducible refine SlM.drew1 ?_ | with_reducible refine SlM.alloc ?_ _ | refine SlM.below ?_ (Hid.out (by assumption))))).mono ?_
  rintro e u2 ⟨rfl, hb'⟩
  have j2 := Lib.hid hb'
  clear yc2 yc3 yc4 yc5
  have z4 : Hid (Blk u2 v4.heap.size 28 #[.int .i64 0, .slice g4 ul.length d4]) := by show Blk _ _ _ _; repeat (first | exact Hid.out (by assumption) | with_reducible refine Blk.drew1 ?_ | with_reducible refine Blk.drewN1 ?_ _ | with_reducible exact Blk.new _ _ _ | with_reducible refine Blk.setSame ?_ _ _ | with_reducible refine Blk.setNe ?_ (by first | omega | (simp; done) | (simp; omega)) _ _ | with_reducible refine Blk.new1 _ _ _ (by first | rfl | (simp; done)) | with_reducible refine Blk.alloc1 ?_ _ | refine Blk.call1 ?_ (Hid.out (by assumption)))
  have zc4 := z4.out.cell
  have zc4l := z4.out.lt
  have z5 : Hid (Blk u2 v5.heap.size 28 #[.int .i64 0, .slice g5 ul.length d5]) := by show Blk _ _ _ _; repeat (first | exact Hid.out (by assumption) | with_reducible refine Blk.drew1 ?_ | with_reducible refine Blk.drewN1 ?_ _ | with_reducible exact Blk.new _ _ _ | with_reducible refine Blk.setSame ?_ _ _ | with_reducible refine Blk.setNe ?_ (by first | omega | (simp; done) | (simp; omega)) _ _ | with_reducible refine Blk.new1 _ _ _ (by first | rfl | (simp; done)) | with_reducible refine Blk.alloc1 ?_ _ | refine Blk.call1 ?_ (Hid.out (by assumption)))
  have zc5 := z5.out.cell
  have zc5l := z5.out.lt
  go_wp2_with fail
  refine (SC.out _ _ _ (by repeat (first | exact Hid.out (by assumption) | with_reducible refine SlM.drew1 ?_ | with_reducible refine SlM.alloc ?_ _ | refine SlM.below ?_ (Hid.out (by assumption)))) (by repeat (first | exact Hid.out (by assumption) | with_reducible refine SlM.drew1 ?_ | with_reducible refine SlM.alloc ?_ _ | refine SlM.below ?_ (Hid.out (by assumption))))).mono ?_
  rintro e u3 ⟨rfl, hb''⟩
  have j3 := Lib.hid hb''
  go_wp2_with fail
  go_ret
  refine ⟨rfl, ?_⟩
  repeat (first | exact Below.refl _ _ | exact Kept.out (Hid.out (by assumption)) | exact Hid.out (by assumption) | with_reducible refine Below.drew ?_ | with_reducible refine Below.drewN1 ?_ _ | with_reducible refine Below.alloc1 ?_ _ | with_reducible refine Below.setCell1 ?_ (by first | omega | (simp; done) | (simp; omega)) _ _ | refine Below.call1 ?_ (Hid.out (by assumption)))

set_option maxRecDepth 100000 in
theorem lifted (os : Os) (started : os.Started) (H : Type) (enc : TypeId × Value → H) :
    ReturnsInHanded {} Try.checked os 3 .any (Rows.viewValuesSpec.pre6 enc Try.prog Try.f3 Rows.viewValuesRow.domain false) (Rows.viewValuesSpec.post enc Try.prog Try.f3 false true false false) := by
  refine returnsInHanded_of_change (C := Try.checked) own started (by kernel_rfl) Try.func3
    (ChangeSpec.witness6 (enc := enc) (C := Try.checked) false ⟨#[], #[.agg #[.int .i64 0, .int .i64 0, .int .i64 0, .int .i64 0, .int .i64 0, .slice none 0 0], .int .i64 0, .int .u64 0, .int .i64 0, .int .i64 0], []⟩ 8 (by kernel_rfl) (by kernel_rfl) (by kernel_rfl) (by kernel_rfl)) ?_
  intro W base args ds gs before hval0 hW hcnd _
  have hval : ∀ (j : Nat) t v, Try.f3.params[j]? = some t → args[j]? = some v → Value.okWide Try.prog W .any base t v := hval0
  have hW' := hW
  obtain ⟨p, q, hA0, hV, rfl, hfz, hnd⟩ := hW
  have hA : DataW.TrodAll enc Try.prog W 0 (fun _ => true) true Try.f3.params.toList args.toList ds p := hA0
  rw [Try.params3] at hA hval
  obtain ⟨v0, vs0, d0, ds0, p0, q0, hargs, rfl, rfl, h0, r0⟩ := trodAll_cons hA
  obtain ⟨v1, vs1, d1, ds1, p1, q1, rfl, rfl, rfl, h1, r1⟩ := trodAll_cons r0
  obtain ⟨v2, vs2, d2, ds2, p2, q2, rfl, rfl, rfl, h2, r2⟩ := trodAll_cons r1
  obtain ⟨v3, vs3, d3, ds3, p3, q3, rfl, rfl, rfl, h3, r3⟩ := trodAll_cons r2
  obtain ⟨v4, vs4, d4, ds4, p4, q4, rfl, rfl, rfl, h4, r4⟩ := trodAll_cons r3
  obtain ⟨rfl, rfl, rfl⟩ := trodAll_nil r4
  obtain rfl : args = #[v0, v1, v2, v3, v4] := by cases args; simp_all
  obtain ⟨rfl, rfl⟩ := trodVars_none hV
  have lt0 := trod_lt0 h0
  have lt1 := trod_lt0 h1
  have lt2 := trod_lt0 h2
  have lt3 := trod_lt0 h3
  have lt4 := trod_lt0 h4
  obtain ⟨a0, rfl, k0⟩ := rd_arg GRaw.cells (GRaw.ok W) Try.underlying24 (fun _ _ _ h => rd_GRaw h) (hval 0 24 v0 rfl rfl) h0
  obtain ⟨a1, rfl, _, _, wf1⟩ := open_int Try.underlying3 (hval 1 3 v1 rfl rfl) h1
  obtain ⟨z2, rfl, _, _, wf2⟩ := open_int Try.underlying25 (hval 2 25 v2 rfl rfl) h2
  obtain ⟨a2, rfl⟩ := u64_of_wf wf2
  obtain ⟨a3, rfl, _, _, wf3⟩ := open_int Try.underlying3 (hval 3 3 v3 rfl rfl) h3
  obtain ⟨a4, rfl, _, _, wf4⟩ := open_int Try.underlying3 (hval 4 3 v4 rfl rfl) h4
  clear hA0 hval0
  refine (walk a0 a1 a2 a3 a4 W k0 (i64_of_wf wf1).1 (i64_of_wf wf1).2 (i64_of_wf wf3).1 (i64_of_wf wf3).2 (i64_of_wf wf4).1 (i64_of_wf wf4).2).mono fun e W' ⟨he, bel⟩ => ?_
  subst he
  exact ⟨_, rfl, _, _, _, [], _, [], hW', trodAll_mk1 (shut_bool Try.underlying4 _), (trodAll_cons_mk (Below.trod laidOut (by kernel_rfl) (of_decide_eq_true (by kernel_rfl)) h0 bel lt0) (trodAll_cons_mk (Below.trod laidOut (by kernel_rfl) (of_decide_eq_true (by kernel_rfl)) h1 bel lt1) (trodAll_cons_mk (Below.trod laidOut (by kernel_rfl) (of_decide_eq_true (by kernel_rfl)) h2 bel lt2) (trodAll_cons_mk (Below.trod laidOut (by kernel_rfl) (of_decide_eq_true (by kernel_rfl)) h3 bel lt3) (trodAll_cons_mk (Below.trod laidOut (by kernel_rfl) (of_decide_eq_true (by kernel_rfl)) h4 bel lt4) trodAll_mk0))))), rfl, bel.frame _, fun h => by cases h⟩

theorem over : Rows.viewValuesRow.holds Try.pinned (OpenSpec.ofChange Rows.viewValuesSpec) :=
  OpenClaim.holds_of_wide 3 Try.f3 rfl rfl rfl rfl rfl rfl rfl ⟨rfl, rfl, rfl, rfl, rfl⟩ rfl rfl rfl rfl rfl (by kernel_rfl) Try.func3 (by kernel_rfl)
    (of_decide_eq_true (by kernel_rfl)) (by unfold Func.isWrapper; first | (rw [if_pos (by decide +kernel)]; kernel_rfl) | (rw [if_neg (by decide +kernel)]; exact ⟨rfl, rfl⟩))
    (fun os started H enc _ => lifted os started H enc)
theorem proved : Rows.ViewValuesSaid := over
#print axioms proved
end Go.Proofs.Ythppeaelfcmafaa.viewValues
