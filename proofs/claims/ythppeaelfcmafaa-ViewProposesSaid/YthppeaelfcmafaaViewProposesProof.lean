/- ViewProposes: the law returns true for every input and leaves its arguments as they were. No condition. Own work; the row's step goes the kit's way. -/
import Derived.Test.YthppeaelfcmafaaRows
import Derived.WalkKit
import Derived.ProofKit
import Derived.OpenShut
import Derived.ShutString
import Derived.ChangeOld
import Derived.Below
import Derived.Test.YthppeaelfcmafaaPr
import Derived.Test.YthppeaelfcmafaaP15
namespace Go.Proofs.Ythppeaelfcmafaa.viewProposes
open Go.ChangeShapes Go.WideShapes Go.ChangeAt Go.RowKit
set_option linter.unusedVariables false

theorem own : ownKnob Try.prog.godebug = none := by kernel_rfl
theorem laidOut : laidOutB Try.prog = true := by kernel_rfl

set_option maxRecDepth 100000 in
set_option maxHeartbeats 8000000 in
theorem walk (v0 : Value) (a0 : GRaw) (a1 : Bool) (v2 : Value) (a2 : List Int) (a3 : Bool) (v4 : Value) (a4 : List Int) (w : World) (k0 : (IsAgg (tGRaw.cells a0)).ok (phi w) v0) (w0 : GRaw.wf a0) (k2 : (IsSl tI64 a2).ok (phi w) v2) (w2 : ∀ a ∈ a2, I64ok a) (k4 : (IsSl tI64 a4).ok (phi w) v4) (w4 : ∀ a ∈ a4, I64ok a) :
    Calls Try.prog 6 #[v0, .bool a1, v2, .bool a3, v4] w fun e w' => e = .returned (.bool true) ∧ Below w.heap.size w w' := by
  exact Fn.run (ViewProposes_ok a0.number a0.mask a0.full a0.spoil a0.at_ a0.boots a1 a2 a3 a4) w [v0, _, v2, _, v4] ⟨k0, rfl, k2, rfl, k4, trivial⟩

set_option maxRecDepth 100000 in
theorem lifted (os : Os) (started : os.Started) (H : Type) (enc : TypeId × Value → H) :
    ReturnsInHanded {} Try.checked os 6 .any (Rows.viewProposesSpec.pre6 enc Try.prog Try.f6 Rows.viewProposesRow.domain false) (Rows.viewProposesSpec.post enc Try.prog Try.f6 false true false false) := by
  refine returnsInHanded_of_change (C := Try.checked) own started (by kernel_rfl) Try.func6
    (ChangeSpec.witness6 (enc := enc) (C := Try.checked) false ⟨#[], #[.agg #[.int .i64 0, .int .i64 0, .int .i64 0, .int .i64 0, .int .i64 0, .slice none 0 0], .bool false, .slice none 0 0, .bool false, .slice none 0 0], []⟩ 8 (by kernel_rfl) (by kernel_rfl) (by kernel_rfl) (by kernel_rfl)) ?_
  intro W base args ds gs before hval0 hW hcnd _
  have hval : ∀ (j : Nat) t v, Try.f6.params[j]? = some t → args[j]? = some v → Value.okWide Try.prog W .any base t v := hval0
  have hW' := hW
  obtain ⟨p, q, hA0, hV, rfl, hfz, hnd⟩ := hW
  have hA : DataW.TrodAll enc Try.prog W 0 (fun _ => true) true Try.f6.params.toList args.toList ds p := hA0
  rw [Try.params6] at hA hval
  obtain ⟨v0, vs0, d0, ds0, p0, q0, hargs, rfl, rfl, h0, r0⟩ := trodAll_cons hA
  obtain ⟨v1, vs1, d1, ds1, p1, q1, rfl, rfl, rfl, h1, r1⟩ := trodAll_cons r0
  obtain ⟨v2, vs2, d2, ds2, p2, q2, rfl, rfl, rfl, h2, r2⟩ := trodAll_cons r1
  obtain ⟨v3, vs3, d3, ds3, p3, q3, rfl, rfl, rfl, h3, r3⟩ := trodAll_cons r2
  obtain ⟨v4, vs4, d4, ds4, p4, q4, rfl, rfl, rfl, h4, r4⟩ := trodAll_cons r3
  obtain ⟨rfl, rfl, rfl⟩ := trodAll_nil r4
  obtain rfl : args = #[v0, v1, v2, v3, v4] := by cases args; simp_all
  obtain ⟨rfl, rfl⟩ := trodVars_none hV
  have lt0 := trod_lt0 h0
  have lt1 := trod_lt0 h1
  have lt2 := trod_lt0 h2
  have lt3 := trod_lt0 h3
  have lt4 := trod_lt0 h4
  obtain ⟨a0, k0, w0⟩ := rds_argS Try.underlying24 rds_GRaw (hval 0 24 v0 rfl rfl) h0
  obtain ⟨a1, rfl, _, _⟩ := open_bool Try.underlying4 (hval 1 4 v1 rfl rfl) h1
  obtain ⟨a2, k2, w2⟩ := rds_argSl Try.underlying22 (rds_slice Try.underlying22 (by kernel_rfl) rfl (rds_i64 Try.underlying3)) (hval 2 22 v2 rfl rfl) h2
  obtain ⟨a3, rfl, _, _⟩ := open_bool Try.underlying4 (hval 3 4 v3 rfl rfl) h3
  obtain ⟨a4, k4, w4⟩ := rds_argSl Try.underlying22 (rds_slice Try.underlying22 (by kernel_rfl) rfl (rds_i64 Try.underlying3)) (hval 4 22 v4 rfl rfl) h4
  clear hA0 hval0
  refine (walk v0 a0 a1 v2 a2 a3 v4 a4 W k0 w0 k2 w2 k4 w4).mono fun e W' ⟨he, bel⟩ => ?_
  subst he
  exact ⟨_, rfl, _, _, _, [], _, [], hW', trodAll_mk1 (shut_bool Try.underlying4 _), (trodAll_cons_mk (Below.trod laidOut (by kernel_rfl) (of_decide_eq_true (by kernel_rfl)) h0 bel lt0) (trodAll_cons_mk (Below.trod laidOut (by kernel_rfl) (of_decide_eq_true (by kernel_rfl)) h1 bel lt1) (trodAll_cons_mk (Below.trod laidOut (by kernel_rfl) (of_decide_eq_true (by kernel_rfl)) h2 bel lt2) (trodAll_cons_mk (Below.trod laidOut (by kernel_rfl) (of_decide_eq_true (by kernel_rfl)) h3 bel lt3) (trodAll_cons_mk (Below.trod laidOut (by kernel_rfl) (of_decide_eq_true (by kernel_rfl)) h4 bel lt4) trodAll_mk0))))), rfl, bel.frame _, fun h => by cases h⟩

theorem over : Rows.viewProposesRow.holds Try.pinned (OpenSpec.ofChange Rows.viewProposesSpec) :=
  OpenClaim.holds_of_wide 6 Try.f6 rfl rfl rfl rfl rfl rfl rfl ⟨rfl, rfl, rfl, rfl, rfl⟩ rfl rfl rfl rfl rfl (by kernel_rfl) Try.func6 (by kernel_rfl)
    (of_decide_eq_true (by kernel_rfl)) (by unfold Func.isWrapper; first | (rw [if_pos (by decide +kernel)]; kernel_rfl) | (rw [if_neg (by decide +kernel)]; exact ⟨rfl, rfl⟩))
    (fun os started H enc _ => lifted os started H enc)
theorem proved : Rows.ViewProposesSaid := over
#print axioms proved
end Go.Proofs.Ythppeaelfcmafaa.viewProposes
