/- TxnJobs: the law returns true for every input and leaves its arguments as they were. No condition. Own work; the row's step goes the kit's way. -/
import Derived.Test.YtpfojangcgffkaaRows
import Derived.WalkKit
import Derived.ProofKit
import Derived.OpenShut
import Derived.ShutString
import Derived.ChangeOld
import Derived.Below
import Derived.Test.YtpfojangcgffkaaM7TxnJobs
namespace Go.Proofs.Ytpfojangcgffkaa.txnJobs
open Go.ChangeShapes Go.WideShapes Go.ChangeAt Go.RowKit
set_option linter.unusedVariables false
set_option linter.unusedSimpArgs false

theorem own : ownKnob Try.prog.godebug = none := by kernel_rfl
theorem laidOut : laidOutB Try.prog = true := by kernel_rfl

set_option maxRecDepth 100000 in
set_option maxHeartbeats 8000000 in
theorem walk (v0 : Value) (a0 : List Oq) (a1 : Int) (a2 : Int) (a3 : Int) (a4 : Int) (w : World) (k0 : (IsSl tOp a0).ok (phi w) v0) (w0 : ∀ a ∈ a0, Oq.wf a) (lo1 : -9223372036854775808 ≤ a1) (hi1 : a1 ≤ 9223372036854775807) (lo2 : -9223372036854775808 ≤ a2) (hi2 : a2 ≤ 9223372036854775807) (lo3 : -9223372036854775808 ≤ a3) (hi3 : a3 ≤ 9223372036854775807) (lo4 : -9223372036854775808 ≤ a4) (hi4 : a4 ≤ 9223372036854775807) :
    Calls Try.prog 12 #[v0, .int .i64 a1, .int .i64 a2, .int .i64 a3, .int .i64 a4] w fun e w' => e = .returned (.bool true) ∧ Below w.heap.size w w' := by
  exact Fn.run (TxnJobs_ok a0 a1 a2 a3 a4) w [v0, _, _, _, _] ⟨k0, rfl, rfl, rfl, rfl, trivial⟩

set_option maxRecDepth 100000 in
theorem lifted (os : Os) (started : os.Started) (H : Type) (enc : TypeId × Value → H) :
    ReturnsInHanded {} Try.checked os 12 .any (Rows.txnJobsSpec.pre6 enc Try.prog Try.f12 Rows.txnJobsRow.domain false) (Rows.txnJobsSpec.post enc Try.prog Try.f12 false true false false) := by
  refine returnsInHanded_of_change (C := Try.checked) own started (by kernel_rfl) Try.func12
    (ChangeSpec.witness6 (enc := enc) (C := Try.checked) false ⟨#[], #[.slice none 0 0, .int .i64 0, .int .i64 0, .int .i64 0, .int .i64 0], []⟩ 8 (by kernel_rfl) (by kernel_rfl) (by kernel_rfl) (by kernel_rfl)) ?_
  intro W base args ds gs before hval0 hW hcnd _
  have hval : ∀ (j : Nat) t v, Try.f12.params[j]? = some t → args[j]? = some v → Value.okWide Try.prog W .any base t v := hval0
  have hW' := hW
  obtain ⟨p, q, hA0, hV, rfl, hfz, hnd⟩ := hW
  have hA : DataW.TrodAll enc Try.prog W 0 (fun _ => true) true Try.f12.params.toList args.toList ds p := hA0
  rw [Try.params12] at hA hval
  obtain ⟨v0, vs0, d0, ds0, p0, q0, hargs, rfl, rfl, h0, r0⟩ := trodAll_cons hA
  obtain ⟨v1, vs1, d1, ds1, p1, q1, rfl, rfl, rfl, h1, r1⟩ := trodAll_cons r0
  obtain ⟨v2, vs2, d2, ds2, p2, q2, rfl, rfl, rfl, h2, r2⟩ := trodAll_cons r1
  obtain ⟨v3, vs3, d3, ds3, p3, q3, rfl, rfl, rfl, h3, r3⟩ := trodAll_cons r2
  obtain ⟨v4, vs4, d4, ds4, p4, q4, rfl, rfl, rfl, h4, r4⟩ := trodAll_cons r3
  obtain ⟨rfl, rfl, rfl⟩ := trodAll_nil r4
  obtain rfl : args = #[v0, v1, v2, v3, v4] := by cases args; simp_all
  obtain ⟨rfl, rfl⟩ := trodVars_none hV
  have lt0 := trod_lt0 h0
  have lt1 := trod_lt0 h1
  have lt2 := trod_lt0 h2
  have lt3 := trod_lt0 h3
  have lt4 := trod_lt0 h4
  obtain ⟨a0, k0, w0⟩ := rds_argSl Try.underlying116 (rds_slice Try.underlying116 (by kernel_rfl) rfl rds_Op) (hval 0 116 v0 rfl rfl) h0
  obtain ⟨a1, rfl, _, _, wf1⟩ := open_int Try.underlying3 (hval 1 3 v1 rfl rfl) h1
  obtain ⟨a2, rfl, _, _, wf2⟩ := open_int Try.underlying3 (hval 2 3 v2 rfl rfl) h2
  obtain ⟨a3, rfl, _, _, wf3⟩ := open_int Try.underlying3 (hval 3 3 v3 rfl rfl) h3
  obtain ⟨a4, rfl, _, _, wf4⟩ := open_int Try.underlying3 (hval 4 3 v4 rfl rfl) h4
  clear hA0 hval0
  refine (walk v0 a0 a1 a2 a3 a4 W k0 w0 (i64_of_wf wf1).1 (i64_of_wf wf1).2 (i64_of_wf wf2).1 (i64_of_wf wf2).2 (i64_of_wf wf3).1 (i64_of_wf wf3).2 (i64_of_wf wf4).1 (i64_of_wf wf4).2).mono fun e W' ⟨he, bel⟩ => ?_
  subst he
  exact ⟨_, rfl, _, _, _, [], _, [], hW', trodAll_mk1 (shut_bool Try.underlying4 _), (trodAll_cons_mk (Below.trod laidOut (by kernel_rfl) (of_decide_eq_true (by kernel_rfl)) h0 bel lt0) (trodAll_cons_mk (Below.trod laidOut (by kernel_rfl) (of_decide_eq_true (by kernel_rfl)) h1 bel lt1) (trodAll_cons_mk (Below.trod laidOut (by kernel_rfl) (of_decide_eq_true (by kernel_rfl)) h2 bel lt2) (trodAll_cons_mk (Below.trod laidOut (by kernel_rfl) (of_decide_eq_true (by kernel_rfl)) h3 bel lt3) (trodAll_cons_mk (Below.trod laidOut (by kernel_rfl) (of_decide_eq_true (by kernel_rfl)) h4 bel lt4) trodAll_mk0))))), rfl, bel.frame _, fun h => by cases h⟩

theorem over : Rows.txnJobsRow.holds Try.pinned (OpenSpec.ofChange Rows.txnJobsSpec) :=
  OpenClaim.holds_of_wide 12 Try.f12 rfl rfl rfl rfl rfl rfl rfl ⟨rfl, rfl, rfl, rfl, rfl⟩ rfl rfl rfl rfl rfl (by kernel_rfl) Try.func12 (by kernel_rfl)
    (of_decide_eq_true (by kernel_rfl)) (by unfold Func.isWrapper; first | (rw [if_pos (by decide +kernel)]; kernel_rfl) | (rw [if_neg (by decide +kernel)]; exact ⟨rfl, rfl⟩))
    (fun os started H enc _ => lifted os started H enc)
theorem proved : Rows.TxnJobsSaid := over
#print axioms proved
end Go.Proofs.Ytpfojangcgffkaa.txnJobs
