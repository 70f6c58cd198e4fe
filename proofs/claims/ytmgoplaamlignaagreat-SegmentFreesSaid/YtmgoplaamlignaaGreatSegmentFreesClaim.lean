/- SegmentFrees: the law returns true for every input and leaves its arguments as they were. No condition. Own work; the row's step goes the kit's way. -/
import Derived.Test.YtmgoplaamlignaaGreatRows
import Derived.WalkKit
import Derived.ProofKit
import Derived.OpenShut
import Derived.ShutString
import Derived.ChangeOld
import Derived.Below
import Derived.Test.YtmgoplaamlignaaGreatK1SegmentFrees
namespace Go.Proofs.YtmgoplaamlignaaGreat.segmentFrees
open Go.ChangeShapes Go.WideShapes Go.ChangeAt Go.RowKit
set_option linter.unusedVariables false
set_option linter.unusedSimpArgs false

theorem own : ownKnob Tryz.prog.godebug = none := by kernel_rfl
theorem laidOut : laidOutB Tryz.prog = true := by kernel_rfl

set_option maxRecDepth 100000 in
set_option maxHeartbeats 8000000 in
theorem walk (v0 : Value) (a0 : Cs20) (v1 : Value) (a1 : List Int) (v2 : Value) (a2 : List Int) (v3 : Value) (a3 : List Pt) (w : World) (k0 : (IsAgg (tCs20.cells a0)).ok (phi w) v0) (w0 : Cs20.wf a0) (k1 : (qal tI64 a1).ok (phi w) v1) (w1 : ∀ a ∈ a1, qix a) (k2 : (qal tI64 a2).ok (phi w) v2) (w2 : ∀ a ∈ a2, qix a) (k3 : (qal tPt a3).ok (phi w) v3) (w3 : ∀ a ∈ a3, Pt.wf a) :
    Calls Tryz.prog 6 #[v0, v1, v2, v3] w fun e w' => e = .returned (.bool true) ∧ Below w.heap.size w w' := by
  exact Fn.run (SegmentFrees_ok a0 a1 a2 a3) w [_, _, _, _] ⟨k0, k1, k2, k3, trivial⟩

set_option maxRecDepth 100000 in
theorem lifted (os : Os) (started : os.Started) (H : Type) (enc : TypeId × Value → H) :
    ReturnsInHanded {} Tryz.checked os 6 .any (Rows.segmentFreesSpec.pre6 enc Tryz.prog Tryz.f6 Rows.segmentFreesRow.domain false) (Rows.segmentFreesSpec.post enc Tryz.prog Tryz.f6 false true false false) := by
  refine returnsInHanded_of_change (C := Tryz.checked) own started (by kernel_rfl) Tryz.func6
    (ChangeSpec.witness6 (enc := enc) (C := Tryz.checked) false ⟨#[], #[.agg #[.int .i64 0, .slice none 0 0, .slice none 0 0, .int .u64 0], .slice none 0 0, .slice none 0 0, .slice none 0 0], []⟩ 8 (by kernel_rfl) (by kernel_rfl) (by kernel_rfl) (by kernel_rfl)) ?_
  intro W base args ds gs before hval0 hW hcnd _
  have hval : ∀ (j : Nat) t v, Tryz.f6.params[j]? = some t → args[j]? = some v → Value.okWide Tryz.prog W .any base t v := hval0
  have hW' := hW
  obtain ⟨p, q, hA0, hV, rfl, hfz, hnd⟩ := hW
  have hA : DataW.TrodAll enc Tryz.prog W 0 (fun _ => true) true Tryz.f6.params.toList args.toList ds p := hA0
  rw [Tryz.params6] at hA hval
  obtain ⟨v0, vs0, d0, ds0, p0, q0, hargs, rfl, rfl, h0, r0⟩ := trodAll_cons hA
  obtain ⟨v1, vs1, d1, ds1, p1, q1, rfl, rfl, rfl, h1, r1⟩ := trodAll_cons r0
  obtain ⟨v2, vs2, d2, ds2, p2, q2, rfl, rfl, rfl, h2, r2⟩ := trodAll_cons r1
  obtain ⟨v3, vs3, d3, ds3, p3, q3, rfl, rfl, rfl, h3, r3⟩ := trodAll_cons r2
  obtain ⟨rfl, rfl, rfl⟩ := trodAll_nil r3
  obtain rfl : args = #[v0, v1, v2, v3] := by cases args; simp_all
  obtain ⟨rfl, rfl⟩ := trodVars_none hV
  have lt0 := trod_lt0 h0
  have lt1 := trod_lt0 h1
  have lt2 := trod_lt0 h2
  have lt3 := trod_lt0 h3
  obtain ⟨a0, k0, w0⟩ := rds_argS Tryz.underlying26 rds_Cs20 (hval 0 26 v0 rfl rfl) h0
  obtain ⟨a1, k1, w1⟩ := rds_argSl Tryz.underlying35 (rds_slice Tryz.underlying35 (by kernel_rfl) rfl (rds_i64 Tryz.underlying3)) (hval 1 35 v1 rfl rfl) h1
  obtain ⟨a2, k2, w2⟩ := rds_argSl Tryz.underlying35 (rds_slice Tryz.underlying35 (by kernel_rfl) rfl (rds_i64 Tryz.underlying3)) (hval 2 35 v2 rfl rfl) h2
  obtain ⟨a3, k3, w3⟩ := rds_argSl Tryz.underlying85 (rds_slice Tryz.underlying85 (by kernel_rfl) rfl rds_Pt) (hval 3 85 v3 rfl rfl) h3
  clear hA0 hval0
  refine (walk v0 a0 v1 a1 v2 a2 v3 a3 W k0 w0 k1 w1 k2 w2 k3 w3).mono fun e W' ⟨he, bel⟩ => ?_
  subst he
  exact ⟨_, rfl, _, _, _, [], _, [], hW', trodAll_mk1 (shut_bool Tryz.underlying4 _), (trodAll_cons_mk (Below.trod laidOut (by kernel_rfl) (of_decide_eq_true (by kernel_rfl)) h0 bel lt0) (trodAll_cons_mk (Below.trod laidOut (by kernel_rfl) (of_decide_eq_true (by kernel_rfl)) h1 bel lt1) (trodAll_cons_mk (Below.trod laidOut (by kernel_rfl) (of_decide_eq_true (by kernel_rfl)) h2 bel lt2) (trodAll_cons_mk (Below.trod laidOut (by kernel_rfl) (of_decide_eq_true (by kernel_rfl)) h3 bel lt3) trodAll_mk0)))), rfl, bel.frame _, fun h => by cases h⟩

set_option maxRecDepth 100000 in
theorem q_ip : (Rows.segmentFreesRow.inPlace == Tryz.prog.inPlace 6) = true := by kernel_rfl
set_option maxRecDepth 100000 in
theorem q_un : (Rows.segmentFreesRow.unfollowed == Tryz.prog.unfollowed 6) = true := by kernel_rfl
set_option maxRecDepth 100000 in
theorem q_rc : (Rows.segmentFreesRow.recurses == Tryz.prog.recurses 6) = true := by kernel_rfl
set_option maxRecDepth 100000 in
theorem q_vn : (Rows.segmentFreesRow.named == Tryz.prog.varsNamed 6) = true := by kernel_rfl
set_option maxRecDepth 100000 in
theorem q_lo : (laidOutB Tryz.prog) = true := by kernel_rfl
set_option maxRecDepth 100000 in
theorem q_mr : (mapsRowed Tryz.prog) = true := by kernel_rfl
set_option maxRecDepth 100000 in
theorem closed : joinedFacts Tryz.prog 6 Tryz.f6 Rows.segmentFreesSpec Rows.segmentFreesRow = true := by
  unfold joinedFacts
  rewrite [q_ip, q_un, q_rc, q_vn, q_lo, q_mr]
  kernel_rfl
theorem over : Rows.segmentFreesRow.holds Tryz.pinned (OpenSpec.ofChange Rows.segmentFreesSpec) :=
  OpenClaim.holds_of_wide 6 Tryz.f6 rfl rfl rfl rfl rfl rfl rfl ⟨rfl, rfl, rfl, rfl, rfl⟩ rfl rfl rfl rfl rfl (by kernel_rfl) Tryz.func6 closed
    (of_decide_eq_true (by kernel_rfl)) (by unfold Func.isWrapper; first | (rw [if_pos (by decide +kernel)]; kernel_rfl) | (rw [if_neg (by decide +kernel)]; exact ⟨rfl, rfl⟩))
    (fun os started H enc _ => lifted os started H enc)
theorem proved : Rows.SegmentFreesSaid := over
#print axioms proved
end Go.Proofs.YtmgoplaamlignaaGreat.segmentFrees
