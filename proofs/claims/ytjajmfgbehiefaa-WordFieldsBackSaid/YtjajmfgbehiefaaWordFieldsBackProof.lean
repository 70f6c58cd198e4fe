/- WordFieldsBack: the law returns true for every input and leaves its arguments as they were. No condition. The frame is the kit's shell; the walk is own work. -/
import Derived.Test.YtjajmfgbehiefaaRows
import Derived.WalkKit
import Derived.Test.YtjajmfgbehiefaaAw
import Derived.Test.YtjajmfgbehiefaaWf
import Derived.Test.YtjajmfgbehiefaaWR
import Derived.Test.YtjajmfgbehiefaaPick
import Derived.ProofKit
import Derived.OpenShut
namespace Go.Proofs.Ytjajmfgbehiefaa.wordFieldsBack
open Go.ChangeShapes Go.WideShapes Go.ChangeAt Go.RowKit
set_option linter.unusedVariables false      -- a walk need not use every 'w<i>' (that an integer argument fits its kind)

theorem own : ownKnob Try.prog.godebug = none := by kernel_rfl

set_option maxRecDepth 100000 in
set_option maxHeartbeats 4000000 in
theorem walk (a0 : Int) (a1 : Int) (a2 : Int) (a3 : Int) (a4 : Int) (a5 : Int) (w0 : (Lit.int .u64 a0).wf = true) (w1 : (Lit.int .i64 a1).wf = true) (w2 : (Lit.int .i64 a2).wf = true) (w3 : (Lit.int .u64 a3).wf = true) (w4 : (Lit.int .i64 a4).wf = true) (w5 : (Lit.int .i64 a5).wf = true) (w : World) :
    Calls Try.prog 8 #[.int .u64 a0, .int .i64 a1, .int .i64 a2, .int .u64 a3, .int .i64 a4, .int .i64 a5] w fun e w' => e = .returned (.bool true) ∧ Grown w w' := by
  obtain ⟨x, rfl⟩ := u64_of_wf w0
  obtain ⟨v, rfl⟩ := u64_of_wf w3
  clear w0 w1 w2 w3 w4 w5
  go_enter Try.func8, Try.ntmps8
  go_wp2_with fail
  refine (Pick_ex a1 64 _ (by decide) (by decide)).mono ?_
  rintro e w' ⟨r, rfl, pr, qr, _, rfl⟩
  go_wp2_with fail
  refine (Pick_ex a2 64 _ (by decide) (by decide)).mono ?_
  rintro e w' ⟨m, rfl, pm, qm, _, rfl⟩
  obtain ⟨a, rfl⟩ := Int.eq_ofNat_of_zero_le pr
  obtain ⟨n, hn⟩ := Int.eq_ofNat_of_zero_le (show 0 ≤ m + 1 by omega)
  have e1 : m = (n : Int) - 1 := by omega
  subst e1
  have e2 : ((n : Int) - 1 + 1) = (n : Int) := by omega
  clear hn
  rcases Decidable.em (64 - (n : Int) < (a : Int)) with h | h
  · have es : setS x (a : Int) (n : Int) v = (0#64, 1) := by
      unfold setS; rw [if_neg]; unfold isFld; simp; omega
    go_wp2_with (first
      | (go_at_call 37; refine (SetField_any _ _ _ _ _).mono ?_; rintro e w' ⟨rfl, rfl⟩)
      | (go_at_call 35; refine (Field_any _ _ _ _).mono ?_; rintro e w' ⟨rfl, rfl⟩)
      | (go_at_call 19; refine (awake_any _).mono ?_; rintro e w' ⟨rfl, rfl⟩))
    go_ret
    exact ⟨rfl, Grown.refl _⟩
  · have hf : isFld (a : Int) (n : Int) = true := by unfold isFld; simp; omega
    rcases Decidable.em (mskB (n : Int) < v) with hv | hv
    · have es : setS x (a : Int) (n : Int) v = (0#64, 2) := by
        unfold setS; rw [if_pos hf, if_pos hv]
      have h3 : decide (64 - (n : Int) < (a : Int)) = false := decide_eq_false h
      clear hf
      go_wp2_with (first
      | (go_at_call 37; refine (SetField_any _ _ _ _ _).mono ?_; rintro e w' ⟨rfl, rfl⟩)
      | (go_at_call 35; refine (Field_any _ _ _ _).mono ?_; rintro e w' ⟨rfl, rfl⟩)
      | (go_at_call 19; refine (awake_any _).mono ?_; rintro e w' ⟨rfl, rfl⟩))
      go_ret
      exact ⟨rfl, Grown.refl _⟩
    · obtain ⟨y, ey⟩ : ∃ y, y = x &&& ~~~(mskB (n : Int) <<< a) ||| v <<< a := ⟨_, rfl⟩
      have es : setS x (a : Int) (n : Int) v = (y, 0) := by
        unfold setS; rw [if_pos hf, if_neg hv, ey]; rfl
      have eg : fieldS y (a : Int) (n : Int) = (v, 0) := by
        unfold fieldS; rw [if_pos hf, ey]; congr 1; exact field_got x v a n (by omega) (by omega) hv
      have eb : fieldS x (a : Int) (n : Int) = (x >>> a &&& mskB (n : Int), 0) := by
        unfold fieldS; rw [if_pos hf]; rfl
      have ez : setS y (a : Int) (n : Int) (x >>> a &&& mskB (n : Int)) = (x, 0) := by
        unfold setS; rw [if_pos hf, if_neg (field_le x a n (by omega)), ey]; congr 1; exact field_back x v a n (by omega) (by omega) hv
      obtain ⟨z, hz⟩ : ∃ z, z = x >>> a &&& mskB (n : Int) := ⟨_, rfl⟩
      rw [← hz] at eb ez
      have Ey := Lib.hid ey
      have Hv := Lib.hid hv
      have hle : (a : Int) + n ≤ 64 := by omega
      clear ey hz hf hv h
      go_wp2_with (first
      | (go_at_call 37; refine (SetField_any _ _ _ _ _).mono ?_; rintro e w' ⟨rfl, rfl⟩)
      | (go_at_call 35; refine (Field_any _ _ _ _).mono ?_; rintro e w' ⟨rfl, rfl⟩)
      | (go_at_call 19; refine (awake_any _).mono ?_; rintro e w' ⟨rfl, rfl⟩))
      refine (Pick_ex a4 64 _ (by decide) (by decide)).mono ?_
      rintro e w' ⟨o, rfl, po, qo, _, rfl⟩
      obtain ⟨o, rfl⟩ := Int.eq_ofNat_of_zero_le po
      have f1 : isFld (o : Int) 1 = true := by unfold isFld; simp; omega
      have g1 : fieldS x (o : Int) 1 = (x >>> o &&& mskB 1, 0) := by unfold fieldS; rw [if_pos f1]; rfl
      have g2 : fieldS y (o : Int) 1 = (y >>> o &&& mskB 1, 0) := by unfold fieldS; rw [if_pos f1]; rfl
      rcases Decidable.em ((o : Int) < a ∨ (a : Int) + n ≤ o) with ho | ho
      · have g3 : y >>> o &&& mskB 1 = x >>> o &&& mskB 1 := by
          rw [Ey.out]; exact field_other x v a n o (by omega) (by omega) Hv.out (by omega) (by omega)
        rw [g3] at g2
        have g4 : ((x >>> o &&& mskB 1) != (x >>> o &&& mskB 1)) = false := by simp
        generalize x >>> o &&& mskB 1 = u at *
        clear g3 f1
        rcases Decidable.em ((o : Int) < a) with k | k
        · have k5 : o < a := by omega
          clear ho
          go_wp2_with (first
      | (go_at_call 37; refine (SetField_any _ _ _ _ _).mono ?_; rintro e w' ⟨rfl, rfl⟩)
      | (go_at_call 35; refine (Field_any _ _ _ _).mono ?_; rintro e w' ⟨rfl, rfl⟩)
      | (go_at_call 19; refine (awake_any _).mono ?_; rintro e w' ⟨rfl, rfl⟩))
          go_ret
          exact ⟨rfl, Grown.refl _⟩
        · have k2 : (a : Int) + n ≤ o := by omega
          have k3 : decide ((o : Int) < a) = false := decide_eq_false k
          have k5 : decide (o < a) = false := decide_eq_false (by omega)
          have k6 : a + n ≤ o := by omega
          clear ho
          go_wp2_with (first
      | (go_at_call 37; refine (SetField_any _ _ _ _ _).mono ?_; rintro e w' ⟨rfl, rfl⟩)
      | (go_at_call 35; refine (Field_any _ _ _ _).mono ?_; rintro e w' ⟨rfl, rfl⟩)
      | (go_at_call 19; refine (awake_any _).mono ?_; rintro e w' ⟨rfl, rfl⟩))
          go_ret
          exact ⟨rfl, Grown.refl _⟩
      · have k3 : decide ((o : Int) < a) = false := decide_eq_false (by omega)
        have k4 : decide ((a : Int) + n ≤ o) = false := decide_eq_false (by omega)
        have k5 : decide (o < a) = false := decide_eq_false (by omega)
        have k6 : decide (a + n ≤ o) = false := decide_eq_false (by omega)
        clear f1 ho
        go_wp2_with (first
      | (go_at_call 37; refine (SetField_any _ _ _ _ _).mono ?_; rintro e w' ⟨rfl, rfl⟩)
      | (go_at_call 35; refine (Field_any _ _ _ _).mono ?_; rintro e w' ⟨rfl, rfl⟩)
      | (go_at_call 19; refine (awake_any _).mono ?_; rintro e w' ⟨rfl, rfl⟩))
        go_ret
        exact ⟨rfl, Grown.refl _⟩

set_option maxRecDepth 100000 in
theorem lifted (os : Os) (started : os.Started) (H : Type) (enc : TypeId × Value → H) :
    ReturnsInHanded {} Try.checked os 8 .any (Rows.wordFieldsBackSpec.pre6 enc Try.prog Try.f8 Rows.wordFieldsBackRow.domain false) (Rows.wordFieldsBackSpec.post enc Try.prog Try.f8 false true false false) := by
  refine returnsInHanded_of_change (C := Try.checked) own started (by kernel_rfl) Try.func8
    (ChangeSpec.witness6 (enc := enc) (C := Try.checked) false ⟨#[], #[.int .u64 0, .int .i64 0, .int .i64 0, .int .u64 0, .int .i64 0, .int .i64 0], []⟩ 8 (by kernel_rfl) (by kernel_rfl) (by kernel_rfl) (by kernel_rfl)) ?_
  intro W base args ds gs before hval0 hW hcnd _
  have hval : ∀ (j : Nat) t v, Try.f8.params[j]? = some t → args[j]? = some v → Value.okWide Try.prog W .any base t v := hval0
  have hW' := hW
  obtain ⟨p, q, hA0, hV, rfl, hfz, hnd⟩ := hW
  have hA : DataW.TrodAll enc Try.prog W 0 (fun _ => true) true Try.f8.params.toList args.toList ds p := hA0
  rw [Try.params8] at hA hval
  obtain ⟨v0, vs0, d0, ds0, p0, q0, hargs, rfl, rfl, h0, r0⟩ := trodAll_cons hA
  obtain ⟨v1, vs1, d1, ds1, p1, q1, rfl, rfl, rfl, h1, r1⟩ := trodAll_cons r0
  obtain ⟨v2, vs2, d2, ds2, p2, q2, rfl, rfl, rfl, h2, r2⟩ := trodAll_cons r1
  obtain ⟨v3, vs3, d3, ds3, p3, q3, rfl, rfl, rfl, h3, r3⟩ := trodAll_cons r2
  obtain ⟨v4, vs4, d4, ds4, p4, q4, rfl, rfl, rfl, h4, r4⟩ := trodAll_cons r3
  obtain ⟨v5, vs5, d5, ds5, p5, q5, rfl, rfl, rfl, h5, r5⟩ := trodAll_cons r4
  obtain ⟨rfl, rfl, rfl⟩ := trodAll_nil r5
  obtain rfl : args = #[v0, v1, v2, v3, v4, v5] := by cases args; simp_all
  obtain ⟨rfl, rfl⟩ := trodVars_none hV
  obtain ⟨a0, rfl, rfl, rfl, w0⟩ := open_int Try.underlying22 (hval 0 22 v0 rfl rfl) h0
  obtain ⟨a1, rfl, rfl, rfl, w1⟩ := open_int Try.underlying3 (hval 1 3 v1 rfl rfl) h1
  obtain ⟨a2, rfl, rfl, rfl, w2⟩ := open_int Try.underlying3 (hval 2 3 v2 rfl rfl) h2
  obtain ⟨a3, rfl, rfl, rfl, w3⟩ := open_int Try.underlying22 (hval 3 22 v3 rfl rfl) h3
  obtain ⟨a4, rfl, rfl, rfl, w4⟩ := open_int Try.underlying3 (hval 4 3 v4 rfl rfl) h4
  obtain ⟨a5, rfl, rfl, rfl, w5⟩ := open_int Try.underlying3 (hval 5 3 v5 rfl rfl) h5
  clear hA0 hval0
  simp only [List.append_nil] at hW'
  refine (walk a0 a1 a2 a3 a4 a5 w0 w1 w2 w3 w4 w5 W).mono fun e W' ⟨he, hg⟩ => ?_
  subst he
  exact ⟨_, rfl, post_of_same (pa := []) (pv := []) hW' (fun _ _ _ => (trodAll_cons_mk (shut_bool Try.underlying4 _) trodAll_mk0)) (fun sp _ => (trodAll_cons_mk (shut_int Try.underlying22 w0) (trodAll_cons_mk (shut_int Try.underlying3 w1) (trodAll_cons_mk (shut_int Try.underlying3 w2) (trodAll_cons_mk (shut_int Try.underlying22 w3) (trodAll_cons_mk (shut_int Try.underlying3 w4) (trodAll_cons_mk (shut_int Try.underlying3 w5) trodAll_mk0))))))) (fun _ _ => rfl) rfl
    (hg.frame _) hg.2.1 (ok_one (by kernel_rfl) rfl (okWide_bool_mk Try.underlying4 _))⟩

theorem over : Rows.wordFieldsBackRow.holds Try.pinned (OpenSpec.ofChange Rows.wordFieldsBackSpec) :=
  OpenClaim.holds_of_wide 8 Try.f8 rfl rfl rfl rfl rfl rfl rfl ⟨rfl, rfl, rfl, rfl, rfl⟩ rfl rfl rfl rfl rfl (by kernel_rfl) Try.func8 (by kernel_rfl)
    (of_decide_eq_true (by kernel_rfl)) (by unfold Func.isWrapper; first | (rw [if_pos (by decide +kernel)]; kernel_rfl) | (rw [if_neg (by decide +kernel)]; exact ⟨rfl, rfl⟩))
    (fun os started H enc _ => lifted os started H enc)

theorem proved : Rows.WordFieldsBackSaid :=
  over
#print axioms proved
end Go.Proofs.Ytjajmfgbehiefaa.wordFieldsBack
