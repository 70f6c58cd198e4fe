/- WordHeaderLife: the law returns true for every input and leaves its arguments as they were. No condition. The frame is the kit's shell; the walk is own work. -/
import Derived.Test.YtjajmfgbehiefaaRows
import Derived.WalkKit
import Derived.Test.YtjajmfgbehiefaaAw
import Derived.Test.YtjajmfgbehiefaaWf
import Derived.Test.YtjajmfgbehiefaaWL
import Derived.Test.YtjajmfgbehiefaaPick
import Derived.ProofKit
import Derived.OpenShut
namespace Go.Proofs.Ytjajmfgbehiefaa.wordHeaderLife
open Go.ChangeShapes Go.WideShapes Go.ChangeAt Go.RowKit
set_option linter.unusedVariables false      -- a walk need not use every 'w<i>' (that an integer argument fits its kind)

theorem own : ownKnob Try.prog.godebug = none := by kernel_rfl

set_option maxRecDepth 100000 in
set_option maxHeartbeats 4000000 in
theorem walk (a0 : Int) (a1 : Int) (a2 : Int) (a3 : Int) (w0 : (Lit.int .u64 a0).wf = true) (w1 : (Lit.int .i64 a1).wf = true) (w2 : (Lit.int .i64 a2).wf = true) (w3 : (Lit.int .i64 a3).wf = true) (w : World) :
    Calls Try.prog 4 #[.int .u64 a0, .int .i64 a1, .int .i64 a2, .int .i64 a3] w fun e w' => e = .returned (.bool true) ∧ Grown w w' := by
  obtain ⟨x, rfl⟩ := u64_of_wf w0
  clear w0 w1 w2 w3
  obtain ⟨R, hR1⟩ := Int.eq_ofNat_of_zero_le (Int.emod_nonneg a3 (show (40 : Int) ≠ 0 by decide))
  have hR2 : R < 40 := by omega
  have HR : Hid (∀ w : World, Calls Try.prog 22 #[.int .i64 a3, .int .i64 40] w fun e w' => e = .returned (.int .i64 (R : Int)) ∧ w = w') := by
    intro w; have := Pick_any a3 40 w (by decide) (by decide); rw [hR1] at this; exact this
  clear hR1
  obtain ⟨V, eV, lo, hi⟩ := life_start x
  go_enter Try.func4, Try.ntmps4
  go_wp2_with fail
  refine (Pick_ex a1 6 _ (by decide) (by decide)).mono ?_
  rintro e w' ⟨c, rfl, pc, qc, _, rfl⟩
  go_wp2_with fail
  refine (Pick_ex a2 6 _ (by decide) (by decide)).mono ?_
  rintro e w' ⟨o, rfl, po, qo, _, rfl⟩
  have eg := head_start V lo hi
  go_wp2_with (first | (go_at_call 11; refine (Header_any _ _ _).mono ?_; rintro e w' ⟨rfl, rfl⟩) | (go_at_call 19; refine (awake_any _).mono ?_; rintro e w' ⟨rfl, rfl⟩))
  clear eV eg
  go_loop [9, 11] (fun h i => ∃ k : Nat, k ≤ R ∧ i = .int .i64 k ∧ h = .int .u64 (UV (hd (V.toNat + k)))) (fun _ i => 40 - (intOf i).toNat)
  case atStart => exact ⟨0, Nat.zero_le _, rfl, rfl⟩
  case round =>
    obtain ⟨k, hk, rfl, rfl⟩ := hrel
    by_cases hlt : k < R
    · obtain ⟨l, f1, f2, f3, f4, f5, f6, f7, f8⟩ := head_life (V.toNat + k) c o (by omega) (by omega) pc qc po qo
      have f9 := hd_and (V.toNat + k) (by omega)
      have f10 : (BitVec.ofNat 64 (V.toNat + k) != V + BitVec.ofNat 64 k) = false := by
        rw [bne_eq_false_iff_eq, bveq, BitVec.toNat_add, BitVec.toNat_ofNat, BitVec.toNat_ofNat]; omega
      go_wp2_with (first
        | (go_at_call 22; refine (HR.out _).mono ?_; rintro e w' ⟨rfl, rfl⟩)
        | (go_at_call 15; refine (Lock_any _ _ _).mono ?_; rintro e w' ⟨rfl, rfl⟩)
        | (go_at_call 17; refine (Next_any _ _).mono ?_; rintro e w' ⟨rfl, rfl⟩)
        | (go_at_call 13; refine (SplitHeader_any _ _).mono ?_; rintro e w' ⟨rfl, rfl⟩)
        | (go_at_call 20; refine (Unlocked_any _ _).mono ?_; rintro e w' ⟨rfl, rfl⟩))
      go_round
      case rel => exact ⟨k + 1, by omega, by go_num, rfl⟩
      case measure => simp [intOf]; omega
    · have hkR : k = R := by omega
      subst hkR
      have f3 : hd (V.toNat + k) >>> 8 = BitVec.ofNat 64 (V.toNat + k) := by rw [bveq, hd_shr _ (by omega), BitVec.toNat_ofNat]; omega
      have f4 : I64 (hd (V.toNat + k) &&& 255#64) = 0 := by
        have := hd_and (V.toNat + k) (by omega)
        rw [beq_iff_eq] at this
        rw [this]; rfl
      have f10 : (BitVec.ofNat 64 (V.toNat + k) == V + BitVec.ofNat 64 k) = true := by
        rw [beq_iff_eq, bveq, BitVec.toNat_add, BitVec.toNat_ofNat, BitVec.toNat_ofNat]; omega
      go_wp2_with (first
        | (go_at_call 22; refine (HR.out _).mono ?_; rintro e w' ⟨rfl, rfl⟩)
        | (go_at_call 15; refine (Lock_any _ _ _).mono ?_; rintro e w' ⟨rfl, rfl⟩)
        | (go_at_call 17; refine (Next_any _ _).mono ?_; rintro e w' ⟨rfl, rfl⟩)
        | (go_at_call 13; refine (SplitHeader_any _ _).mono ?_; rintro e w' ⟨rfl, rfl⟩)
        | (go_at_call 20; refine (Unlocked_any _ _).mono ?_; rintro e w' ⟨rfl, rfl⟩))
      go_ret
      exact ⟨rfl, Grown.refl _⟩

set_option maxRecDepth 100000 in
theorem lifted (os : Os) (started : os.Started) (H : Type) (enc : TypeId × Value → H) :
    ReturnsInHanded {} Try.checked os 4 .any (Rows.wordHeaderLifeSpec.pre6 enc Try.prog Try.f4 Rows.wordHeaderLifeRow.domain false) (Rows.wordHeaderLifeSpec.post enc Try.prog Try.f4 false true false false) := by
  refine returnsInHanded_of_change (C := Try.checked) own started (by kernel_rfl) Try.func4
    (ChangeSpec.witness6 (enc := enc) (C := Try.checked) false ⟨#[], #[.int .u64 0, .int .i64 0, .int .i64 0, .int .i64 0], []⟩ 8 (by kernel_rfl) (by kernel_rfl) (by kernel_rfl) (by kernel_rfl)) ?_
  intro W base args ds gs before hval0 hW hcnd _
  have hval : ∀ (j : Nat) t v, Try.f4.params[j]? = some t → args[j]? = some v → Value.okWide Try.prog W .any base t v := hval0
  have hW' := hW
  obtain ⟨p, q, hA0, hV, rfl, hfz, hnd⟩ := hW
  have hA : DataW.TrodAll enc Try.prog W 0 (fun _ => true) true Try.f4.params.toList args.toList ds p := hA0
  rw [Try.params4] at hA hval
  obtain ⟨v0, vs0, d0, ds0, p0, q0, hargs, rfl, rfl, h0, r0⟩ := trodAll_cons hA
  obtain ⟨v1, vs1, d1, ds1, p1, q1, rfl, rfl, rfl, h1, r1⟩ := trodAll_cons r0
  obtain ⟨v2, vs2, d2, ds2, p2, q2, rfl, rfl, rfl, h2, r2⟩ := trodAll_cons r1
  obtain ⟨v3, vs3, d3, ds3, p3, q3, rfl, rfl, rfl, h3, r3⟩ := trodAll_cons r2
  obtain ⟨rfl, rfl, rfl⟩ := trodAll_nil r3
  obtain rfl : args = #[v0, v1, v2, v3] := by cases args; simp_all
  obtain ⟨rfl, rfl⟩ := trodVars_none hV
  obtain ⟨a0, rfl, rfl, rfl, w0⟩ := open_int Try.underlying22 (hval 0 22 v0 rfl rfl) h0
  obtain ⟨a1, rfl, rfl, rfl, w1⟩ := open_int Try.underlying3 (hval 1 3 v1 rfl rfl) h1
  obtain ⟨a2, rfl, rfl, rfl, w2⟩ := open_int Try.underlying3 (hval 2 3 v2 rfl rfl) h2
  obtain ⟨a3, rfl, rfl, rfl, w3⟩ := open_int Try.underlying3 (hval 3 3 v3 rfl rfl) h3
  clear hA0 hval0
  simp only [List.append_nil] at hW'
  refine (walk a0 a1 a2 a3 w0 w1 w2 w3 W).mono fun e W' ⟨he, hg⟩ => ?_
  subst he
  exact ⟨_, rfl, post_of_same (pa := []) (pv := []) hW' (fun _ _ _ => (trodAll_cons_mk (shut_bool Try.underlying4 _) trodAll_mk0)) (fun sp _ => (trodAll_cons_mk (shut_int Try.underlying22 w0) (trodAll_cons_mk (shut_int Try.underlying3 w1) (trodAll_cons_mk (shut_int Try.underlying3 w2) (trodAll_cons_mk (shut_int Try.underlying3 w3) trodAll_mk0))))) (fun _ _ => rfl) rfl
    (hg.frame _) hg.2.1 (ok_one (by kernel_rfl) rfl (okWide_bool_mk Try.underlying4 _))⟩

theorem over : Rows.wordHeaderLifeRow.holds Try.pinned (OpenSpec.ofChange Rows.wordHeaderLifeSpec) :=
  OpenClaim.holds_of_wide 4 Try.f4 rfl rfl rfl rfl rfl rfl rfl ⟨rfl, rfl, rfl, rfl, rfl⟩ rfl rfl rfl rfl rfl (by kernel_rfl) Try.func4 (by kernel_rfl)
    (of_decide_eq_true (by kernel_rfl)) (by unfold Func.isWrapper; first | (rw [if_pos (by decide +kernel)]; kernel_rfl) | (rw [if_neg (by decide +kernel)]; exact ⟨rfl, rfl⟩))
    (fun os started H enc _ => lifted os started H enc)

theorem proved : Rows.WordHeaderLifeSaid :=
  over
#print axioms proved
end Go.Proofs.Ytjajmfgbehiefaa.wordHeaderLife
