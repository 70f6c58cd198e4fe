/- LeasePeeks: the law returns true for every input and leaves its arguments as they were. No condition. Own work; the row's step goes the kit's way. -/
import Derived.Test.YtfglhiciagmicaaGreatRows
import Derived.WalkKit
import Derived.ProofKit
import Derived.OpenShut
import Derived.ShutString
import Derived.ChangeOld
import Derived.Below
import Derived.Test.YtfglhiciagmicaaGreatM6LeasePeeks
namespace Go.Proofs.YtfglhiciagmicaaGreat.leasePeeks
open Go.ChangeShapes Go.WideShapes Go.ChangeAt Go.RowKit
set_option linter.unusedVariables false
set_option linter.unusedSimpArgs false

theorem own : ownKnob Tryz.prog.godebug = none := by kernel_rfl
theorem laidOut : laidOutB Tryz.prog = true := by kernel_rfl

set_option maxRecDepth 100000 in
set_option maxHeartbeats 8000000 in
theorem walk (v0 : Value) (a0 : GRaw) (a1 : Int) (v2 : Value) (a2 : List GPoke) (v3 : Value) (a3 : List GAlter) (a4 : Bool) (a5 : Int) (w : World) (k0 : (IsAgg (tGRaw.cells a0)).ok (phi w) v0) (w0 : GRaw.wf a0) (lo1 : -9223372036854775808 ≤ a1) (hi1 : a1 ≤ 9223372036854775807) (k2 : (IsSl tGPoke a2).ok (phi w) v2) (w2 : ∀ a ∈ a2, GPoke.wf a) (k3 : (IsSl tGAlter a3).ok (phi w) v3) (w3 : ∀ a ∈ a3, GAlter.wf a) (lo5 : -9223372036854775808 ≤ a5) (hi5 : a5 ≤ 9223372036854775807) :
    Calls Tryz.prog 6 #[v0, .int .i64 a1, v2, v3, .bool a4, .int .i64 a5] w fun e w' => e = .returned (.bool true) ∧ Below w.heap.size w w' := by
  exact Fn.run (LeasePeeks_ok a0 a1 a2 w2 a3 w3 a4 a5) w [v0, _, v2, v3, _, _] ⟨k0, rfl, k2, k3, rfl, rfl, trivial⟩

set_option maxRecDepth 100000 in
theorem lifted (os : Os) (started : os.Started) (H : Type) (enc : TypeId × Value → H) :
    ReturnsInHanded {} Tryz.checked os 6 .any (Rows.leasePeeksSpec.pre6 enc Tryz.prog Tryz.f6 Rows.leasePeeksRow.domain false) (Rows.leasePeeksSpec.post enc Tryz.prog Tryz.f6 false true false false) := by
  refine returnsInHanded_of_change (C := Tryz.checked) own started (by kernel_rfl) Tryz.func6
    (ChangeSpec.witness6 (enc := enc) (C := Tryz.checked) false ⟨#[], #[.agg #[.int .i64 0, .int .i64 0, .int .i64 0, .int .i64 0, .int .i64 0, .int .i64 0], .int .i64 0, .slice none 0 0, .slice none 0 0, .bool false, .int .i64 0], []⟩ 8 (by kernel_rfl) (by kernel_rfl) (by kernel_rfl) (by kernel_rfl)) ?_
  intro W base args ds gs before hval0 hW hcnd _
  have hval : ∀ (j : Nat) t v, Tryz.f6.params[j]? = some t → args[j]? = some v → Value.okWide Tryz.prog W .any base t v := hval0
  have hW' := hW
  obtain ⟨p, q, hA0, hV, rfl, hfz, hnd⟩ := hW
  have hA : DataW.TrodAll enc Tryz.prog W 0 (fun _ => true) true Tryz.f6.params.toList args.toList ds p := hA0
  rw [Tryz.params6] at hA hval
  obtain ⟨v0, vs0, d0, ds0, p0, q0, hargs, rfl, rfl, h0, r0⟩ := trodAll_cons hA
  obtain ⟨v1, vs1, d1, ds1, p1, q1, rfl, rfl, rfl, h1, r1⟩ := trodAll_cons r0
  obtain ⟨v2, vs2, d2, ds2, p2, q2, rfl, rfl, rfl, h2, r2⟩ := trodAll_cons r1
  obtain ⟨v3, vs3, d3, ds3, p3, q3, rfl, rfl, rfl, h3, r3⟩ := trodAll_cons r2
  obtain ⟨v4, vs4, d4, ds4, p4, q4, rfl, rfl, rfl, h4, r4⟩ := trodAll_cons r3
  obtain ⟨v5, vs5, d5, ds5, p5, q5, rfl, rfl, rfl, h5, r5⟩ := trodAll_cons r4
  obtain ⟨rfl, rfl, rfl⟩ := trodAll_nil r5
  obtain rfl : args = #[v0, v1, v2, v3, v4, v5] := by cases args; simp_all
  obtain ⟨rfl, rfl⟩ := trodVars_none hV
  have lt0 := trod_lt0 h0
  have lt1 := trod_lt0 h1
  have lt2 := trod_lt0 h2
  have lt3 := trod_lt0 h3
  have lt4 := trod_lt0 h4
  have lt5 := trod_lt0 h5
  obtain ⟨a0, k0, w0⟩ := rds_argS Tryz.underlying23 rds_GRaw (hval 0 23 v0 rfl rfl) h0
  obtain ⟨a1, rfl, _, _, wf1⟩ := open_int Tryz.underlying3 (hval 1 3 v1 rfl rfl) h1
  obtain ⟨a2, k2, w2⟩ := rds_argSl Tryz.underlying24 (rds_slice Tryz.underlying24 (by kernel_rfl) rfl rds_GPoke) (hval 2 24 v2 rfl rfl) h2
  obtain ⟨a3, k3, w3⟩ := rds_argSl Tryz.underlying25 (rds_slice Tryz.underlying25 (by kernel_rfl) rfl rds_GAlter) (hval 3 25 v3 rfl rfl) h3
  obtain ⟨a4, rfl, _, _⟩ := open_bool Tryz.underlying4 (hval 4 4 v4 rfl rfl) h4
  obtain ⟨a5, rfl, _, _, wf5⟩ := open_int Tryz.underlying3 (hval 5 3 v5 rfl rfl) h5
  clear hA0 hval0
  refine (walk v0 a0 a1 v2 a2 v3 a3 a4 a5 W k0 w0 (i64_of_wf wf1).1 (i64_of_wf wf1).2 k2 w2 k3 w3 (i64_of_wf wf5).1 (i64_of_wf wf5).2).mono fun e W' ⟨he, bel⟩ => ?_
  subst he
  exact ⟨_, rfl, _, _, _, [], _, [], hW', trodAll_mk1 (shut_bool Tryz.underlying4 _), (trodAll_cons_mk (Below.trod laidOut (by kernel_rfl) (of_decide_eq_true (by kernel_rfl)) h0 bel lt0) (trodAll_cons_mk (Below.trod laidOut (by kernel_rfl) (of_decide_eq_true (by kernel_rfl)) h1 bel lt1) (trodAll_cons_mk (Below.trod laidOut (by kernel_rfl) (of_decide_eq_true (by kernel_rfl)) h2 bel lt2) (trodAll_cons_mk (Below.trod laidOut (by kernel_rfl) (of_decide_eq_true (by kernel_rfl)) h3 bel lt3) (trodAll_cons_mk (Below.trod laidOut (by kernel_rfl) (of_decide_eq_true (by kernel_rfl)) h4 bel lt4) (trodAll_cons_mk (Below.trod laidOut (by kernel_rfl) (of_decide_eq_true (by kernel_rfl)) h5 bel lt5) trodAll_mk0)))))), rfl, bel.frame _, fun h => by cases h⟩

theorem over : Rows.leasePeeksRow.holds Tryz.pinned (OpenSpec.ofChange Rows.leasePeeksSpec) :=
  OpenClaim.holds_of_wide 6 Tryz.f6 rfl rfl rfl rfl rfl rfl rfl ⟨rfl, rfl, rfl, rfl, rfl⟩ rfl rfl rfl rfl rfl (by kernel_rfl) Tryz.func6 (by kernel_rfl)
    (of_decide_eq_true (by kernel_rfl)) (by unfold Func.isWrapper; first | (rw [if_pos (by decide +kernel)]; kernel_rfl) | (rw [if_neg (by decide +kernel)]; exact ⟨rfl, rfl⟩))
    (fun os started H enc _ => lifted os started H enc)
theorem proved : Rows.LeasePeeksSaid := over
#print axioms proved
end Go.Proofs.YtfglhiciagmicaaGreat.leasePeeks
