/- From 'well formed' to a bit vector, to bounds. Own work. -/
import Derived.Test.YthppeaelfcmafaaBv
namespace Go.Proofs.Ythppeaelfcmafaa
open Go.RowKit
theorem u64_of_wf {a : Int} (h : (Lit.int .u64 a).wf = true) : ∃ x : BitVec 64, a = UV x := by
  simp [Lit.wf, IntKind.min, IntKind.max, IntKind.signed, IntKind.bits] at h
  refine ⟨BitVec.ofNat 64 a.toNat, ?_⟩
  unfold UV
  rw [BitVec.toNat_ofNat]
  omega
theorem u32_of_wf {a : Int} (h : (Lit.int .u32 a).wf = true) : ∃ x : BitVec 32, a = UV x := by
  simp [Lit.wf, IntKind.min, IntKind.max, IntKind.signed, IntKind.bits] at h
  refine ⟨BitVec.ofNat 32 a.toNat, ?_⟩
  unfold UV
  rw [BitVec.toNat_ofNat]
  omega
theorem u8_of_wf {a : Int} (h : (Lit.int .u8 a).wf = true) : ∃ x : BitVec 8, a = UV x := by
  simp [Lit.wf, IntKind.min, IntKind.max, IntKind.signed, IntKind.bits] at h
  refine ⟨BitVec.ofNat 8 a.toNat, ?_⟩
  unfold UV
  rw [BitVec.toNat_ofNat]
  omega
theorem i64_of_wf {a : Int} (h : (Lit.int .i64 a).wf = true) : -9223372036854775808 ≤ a ∧ a ≤ 9223372036854775807 := by
  simp [Lit.wf, IntKind.min, IntKind.max, IntKind.signed, IntKind.bits] at h
  omega
end Go.Proofs.Ythppeaelfcmafaa
