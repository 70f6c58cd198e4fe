/- LogrecValid: the law returns true for every input and leaves its arguments as they were. No condition. Own work; the row's step goes the kit's way. -/
import Derived.Test.YtccgnekcbdkilaaRows
import Derived.WalkKit
import Derived.ProofKit
import Derived.OpenShut
import Derived.ShutString
import Derived.ChangeOld
import Derived.Below
import Derived.Test.YtccgnekcbdkilaaM4LogrecValid
namespace Go.Proofs.Ytccgnekcbdkilaa.logrecValid
open Go.ChangeShapes Go.WideShapes Go.ChangeAt Go.RowKit
set_option linter.unusedVariables false
set_option linter.unusedSimpArgs false

theorem own : ownKnob Try.prog.godebug = none := by kernel_rfl
theorem laidOut : laidOutB Try.prog = true := by kernel_rfl

set_option maxRecDepth 100000 in
set_option maxHeartbeats 8000000 in
theorem walk (a0 : Int) (v1 : Value) (a1 : List Pg) (v2 : Value) (a2 : List Pg) (a3 : Int) (v4 : Value) (a4 : List Int) (a5 : Int) (w : World) (lo0 : -9223372036854775808 ≤ a0) (hi0 : a0 ≤ 9223372036854775807) (k1 : (IsSl tPg a1).ok (phi w) v1) (w1 : ∀ a ∈ a1, Pg.wf a) (k2 : (IsSl tPg a2).ok (phi w) v2) (w2 : ∀ a ∈ a2, Pg.wf a) (lo3 : -9223372036854775808 ≤ a3) (hi3 : a3 ≤ 9223372036854775807) (k4 : (IsSl tI64 a4).ok (phi w) v4) (w4 : ∀ a ∈ a4, I64ok a) (lo5 : -9223372036854775808 ≤ a5) (hi5 : a5 ≤ 9223372036854775807) :
    Calls Try.prog 3 #[.int .i64 a0, v1, v2, .int .i64 a3, v4, .int .i64 a5] w fun e w' => e = .returned (.bool true) ∧ Below w.heap.size w w' := by
  exact Fn.run (LogrecValid_ok a0 a1 a2 a3 a4 a5 ⟨lo0, hi0⟩ ⟨lo3, hi3⟩ ⟨lo5, hi5⟩ w4) w [_, v1, v2, _, v4, _] ⟨rfl, k1, k2, rfl, k4, rfl, trivial⟩

set_option maxRecDepth 100000 in
theorem lifted (os : Os) (started : os.Started) (H : Type) (enc : TypeId × Value → H) :
    ReturnsInHanded {} Try.checked os 3 .any (Rows.logrecValidSpec.pre6 enc Try.prog Try.f3 Rows.logrecValidRow.domain false) (Rows.logrecValidSpec.post enc Try.prog Try.f3 false true false false) := by
  refine returnsInHanded_of_change (C := Try.checked) own started (by kernel_rfl) Try.func3
    (ChangeSpec.witness6 (enc := enc) (C := Try.checked) false ⟨#[], #[.int .i64 0, .slice none 0 0, .slice none 0 0, .int .i64 0, .slice none 0 0, .int .i64 0], []⟩ 8 (by kernel_rfl) (by kernel_rfl) (by kernel_rfl) (by kernel_rfl)) ?_
  intro W base args ds gs before hval0 hW hcnd _
  have hval : ∀ (j : Nat) t v, Try.f3.params[j]? = some t → args[j]? = some v → Value.okWide Try.prog W .any base t v := hval0
  have hW' := hW
  obtain ⟨p, q, hA0, hV, rfl, hfz, hnd⟩ := hW
  have hA : DataW.TrodAll enc Try.prog W 0 (fun _ => true) true Try.f3.params.toList args.toList ds p := hA0
  rw [Try.params3] at hA hval
  obtain ⟨v0, vs0, d0, ds0, p0, q0, hargs, rfl, rfl, h0, r0⟩ := trodAll_cons hA
  obtain ⟨v1, vs1, d1, ds1, p1, q1, rfl, rfl, rfl, h1, r1⟩ := trodAll_cons r0
  obtain ⟨v2, vs2, d2, ds2, p2, q2, rfl, rfl, rfl, h2, r2⟩ := trodAll_cons r1
  obtain ⟨v3, vs3, d3, ds3, p3, q3, rfl, rfl, rfl, h3, r3⟩ := trodAll_cons r2
  obtain ⟨v4, vs4, d4, ds4, p4, q4, rfl, rfl, rfl, h4, r4⟩ := trodAll_cons r3
  obtain ⟨v5, vs5, d5, ds5, p5, q5, rfl, rfl, rfl, h5, r5⟩ := trodAll_cons r4
  obtain ⟨rfl, rfl, rfl⟩ := trodAll_nil r5
  obtain rfl : args = #[v0, v1, v2, v3, v4, v5] := by cases args; simp_all
  obtain ⟨rfl, rfl⟩ := trodVars_none hV
  have lt0 := trod_lt0 h0
  have lt1 := trod_lt0 h1
  have lt2 := trod_lt0 h2
  have lt3 := trod_lt0 h3
  have lt4 := trod_lt0 h4
  have lt5 := trod_lt0 h5
  obtain ⟨a0, rfl, _, _, wf0⟩ := open_int Try.underlying3 (hval 0 3 v0 rfl rfl) h0
  obtain ⟨a1, k1, w1⟩ := rds_argSl Try.underlying22 (rds_slice Try.underlying22 (by kernel_rfl) rfl rds_Pg) (hval 1 22 v1 rfl rfl) h1
  obtain ⟨a2, k2, w2⟩ := rds_argSl Try.underlying22 (rds_slice Try.underlying22 (by kernel_rfl) rfl rds_Pg) (hval 2 22 v2 rfl rfl) h2
  obtain ⟨a3, rfl, _, _, wf3⟩ := open_int Try.underlying3 (hval 3 3 v3 rfl rfl) h3
  obtain ⟨a4, k4, w4⟩ := rds_argSl Try.underlying23 (rds_slice Try.underlying23 (by kernel_rfl) rfl (rds_i64 Try.underlying3)) (hval 4 23 v4 rfl rfl) h4
  obtain ⟨a5, rfl, _, _, wf5⟩ := open_int Try.underlying3 (hval 5 3 v5 rfl rfl) h5
  clear hA0 hval0
  refine (walk a0 v1 a1 v2 a2 a3 v4 a4 a5 W (i64_of_wf wf0).1 (i64_of_wf wf0).2 k1 w1 k2 w2 (i64_of_wf wf3).1 (i64_of_wf wf3).2 k4 w4 (i64_of_wf wf5).1 (i64_of_wf wf5).2).mono fun e W' ⟨he, bel⟩ => ?_
  subst he
  exact ⟨_, rfl, _, _, _, [], _, [], hW', trodAll_mk1 (shut_bool Try.underlying4 _), (trodAll_cons_mk (Below.trod laidOut (by kernel_rfl) (of_decide_eq_true (by kernel_rfl)) h0 bel lt0) (trodAll_cons_mk (Below.trod laidOut (by kernel_rfl) (of_decide_eq_true (by kernel_rfl)) h1 bel lt1) (trodAll_cons_mk (Below.trod laidOut (by kernel_rfl) (of_decide_eq_true (by kernel_rfl)) h2 bel lt2) (trodAll_cons_mk (Below.trod laidOut (by kernel_rfl) (of_decide_eq_true (by kernel_rfl)) h3 bel lt3) (trodAll_cons_mk (Below.trod laidOut (by kernel_rfl) (of_decide_eq_true (by kernel_rfl)) h4 bel lt4) (trodAll_cons_mk (Below.trod laidOut (by kernel_rfl) (of_decide_eq_true (by kernel_rfl)) h5 bel lt5) trodAll_mk0)))))), rfl, bel.frame _, fun h => by cases h⟩

theorem over : Rows.logrecValidRow.holds Try.pinned (OpenSpec.ofChange Rows.logrecValidSpec) :=
  OpenClaim.holds_of_wide 3 Try.f3 rfl rfl rfl rfl rfl rfl rfl ⟨rfl, rfl, rfl, rfl, rfl⟩ rfl rfl rfl rfl rfl (by kernel_rfl) Try.func3 (by kernel_rfl)
    (of_decide_eq_true (by kernel_rfl)) (by unfold Func.isWrapper; first | (rw [if_pos (by decide +kernel)]; kernel_rfl) | (rw [if_neg (by decide +kernel)]; exact ⟨rfl, rfl⟩))
    (fun os started H enc _ => lifted os started H enc)
theorem proved : Rows.LogrecValidSaid := over
#print axioms proved
end Go.Proofs.Ytccgnekcbdkilaa.logrecValid
