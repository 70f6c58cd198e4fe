/- EpochPages: the law returns true for every input and leaves its arguments as they were. No condition. Own work; the row's step goes the kit's way. -/
import Derived.Test.YtiababibapcmnaaRows
import Derived.WalkKit
import Derived.ProofKit
import Derived.OpenShut
import Derived.ShutString
import Derived.ChangeOld
import Derived.Below
import Derived.Test.YtiababibapcmnaaOpg
import Derived.Test.YtiababibapcmnaaEs
import Derived.Test.YtiababibapcmnaaPick
import Derived.Test.YtiababibapcmnaaReg
import Derived.Test.YtiababibapcmnaaApp
import Derived.Deep.DeepCutAuto
namespace Go.Proofs.Ytiababibapcmnaa.epochPages
open Go.ChangeShapes Go.WideShapes Go.ChangeAt Go.RowKit
set_option linter.unusedVariables false

theorem own : ownKnob Try.prog.godebug = none := by kernel_rfl
theorem laidOut : laidOutB Try.prog = true := by kernel_rfl

set_option maxRecDepth 100000 in
set_option maxHeartbeats 8000000 in
theorem walk (a0 : Pg) (a1 : BitVec 32) (a2 : BitVec 32) (a3 : BitVec 32) (a4 : Int) (w : World) (lo4 : -9223372036854775808 ≤ a4) (hi4 : a4 ≤ 9223372036854775807) :
    Calls Try.prog 3 #[a0.val, .int .u32 (UV a1), .int .u32 (UV a2), .int .u32 (UV a3), .int .i64 a4] w fun e w' => e = .returned (.bool true) ∧ Below w.heap.size w w' := by
  obtain ⟨l, h, d0, d1, d2, d3, d4, d5, d6⟩ := a0
  unfold Pg.val pageV
  go_enter Try.func3, Try.ntmps3
  go_upto_if 23 with (go_at_call 4; refine (Pick_ex a4 4 _ (by decide) (by decide)).mono ?_; rintro e w' ⟨r, rfl, p1, q1, _, rfl⟩)
  go_cut [3] (fun s3 wx => ∃ (p : Pg) (x : BitVec 32) (n : Nat), s3 = .int .u32 (UV x) ∧ wx = (w.alloc (.cells #[.int .i64 p.l, .int .u64 (UV p.h), .int .u64 (UV p.d0), .int .u64 (UV p.d1), .int .u64 (UV p.d2), .int .u64 (UV p.d3), .int .u64 (UV p.d4), .int .u64 (UV p.d5), .int .u64 (UV p.d6)] 25)).drewN n)
  case first =>
    rcases Decidable.em (0 < r) with k | k
    · go_wp2_with fail
      refine wp_region_tail 14 (by kernel_rfl) (by kernel_rfl) ?_
      simp only [List.take_succ_cons, List.take_zero, List.drop_succ_cons, List.drop_zero]
      repeat still_step
      refine wpStill_step (fun K hK => ?_)
      go_simp
      refine call_pick _ 7 (by decide) (by decide) (fun j hj HJ => ?_)
      refine hK _ ?_
      clear hK K HJ
      rcases (show j = 0 ∨ j = 1 ∨ j = 2 ∨ j = 3 ∨ j = 4 ∨ j = 5 ∨ j = 6 by omega) with rfl | rfl | rfl | rfl | rfl | rfl | rfl
      all_goals
        repeat still_step
        refine wpStill_step (fun K hK => ?_)
        go_simp
        refine call_pick _ 3 (by decide) (by decide) (fun m hm HM => ?_)
        refine hK _ ?_
        clear hK K HM
        repeat still_step
        refine wpStill_nil ?_
        go_wp2_with (go_at_call 4; refine (Pick_ex _ 6 _ (by decide) (by decide)).mono ?_; rintro e w' ⟨r2, rfl, p2, q2, _, rfl⟩)
        go_meet
        exact ⟨⟨_, _, _, _, _, _, _, _, _⟩, _, 1, rfl, rfl⟩
    · go_wp2_with fail
      go_meet
      exact ⟨⟨_, _, _, _, _, _, _, _, _⟩, _, 0, rfl, rfl⟩
  case rest =>
    obtain ⟨p, x, n, rfl, rfl⟩ := hcut
    obtain ⟨l', h', e0, e1, e2, e3, e4, e5, e6⟩ := p
    clear lo4 hi4 p1 q1
    obtain ⟨W0, hW0⟩ : ∃ W, W = (w.alloc (.cells #[.int .i64 l', .int .u64 (UV h'), .int .u64 (UV e0), .int .u64 (UV e1), .int .u64 (UV e2), .int .u64 (UV e3), .int .u64 (UV e4), .int .u64 (UV e5), .int .u64 (UV e6)] 25)).drewN n := ⟨_, rfl⟩
    dsimp only
    rw [← hW0]
    have hB0 : Blk W0 w.heap.size 25 #[.int .i64 l', .int .u64 (UV h'), .int .u64 (UV e0), .int .u64 (UV e1), .int .u64 (UV e2), .int .u64 (UV e3), .int .u64 (UV e4), .int .u64 (UV e5), .int .u64 (UV e6)] := by rw [hW0]; exact Blk.new _ _ _
    have hL0 : Below w.heap.size w W0 := by rw [hW0]; exact Below.drewN' ((Below.refl _ _).alloc (Nat.le_refl _) _) _
    have c0 := hB0.cell
    have B0 := Lib.hid hB0
    have L0 := Lib.hid hL0
    clear hB0 hL0 hW0
    rcases Bool.eq_false_or_eq_true (l' != 97) with b1 | b1
    · have R := Lib.hid (writeE_line ⟨l', h', e0, e1, e2, e3, e4, e5, e6⟩ a1 b1)
      clear b1
      go_wp2_with fail
      refine (ReadEpoch_any _ _ _ _ _ _ _ _ _ _).mono ?_
      rintro e w1 ⟨rfl, hb1⟩
      have B1 := Lib.hid (B0.out.below hb1 B0.out.lt)
      have L1 := Lib.hid (L0.out.trans (hb1.mono L0.out.size))
      have c1 := B1.out.cell
      clear c0
      go_wp2_with fail
      refine (ReadEpochR_any _ _ _ _ _ _ _ _ _ _).mono ?_
      rintro e w2 ⟨rfl, hb2⟩
      have B2 := Lib.hid (B1.out.below hb2 B1.out.lt)
      have L2 := Lib.hid (L1.out.trans (hb2.mono L1.out.size))
      have c2 := B2.out.cell
      clear c1 hb1
      go_wp2_with fail
      refine (WriteEpoch_any ⟨l', h', e0, e1, e2, e3, e4, e5, e6⟩ a1 _).mono ?_
      rintro e w3 ⟨rfl, hb3⟩
      rw [R.out]
      have B3 := Lib.hid (B2.out.below hb3 B2.out.lt)
      have L3 := Lib.hid (L2.out.trans (hb3.mono L2.out.size))
      clear c2 hb2 hb3
      have B3a := Lib.hid (B3.out.below (B := w3.heap.size) ((Below.refl _ _).alloc (Nat.le_refl _) (.cells #[.int .i64 0, .int .u64 (UV 0#64), .int .u64 (UV 0#64), .int .u64 (UV 0#64), .int .u64 (UV 0#64), .int .u64 (UV 0#64), .int .u64 (UV 0#64), .int .u64 (UV 0#64), .int .u64 (UV 0#64)] 25)) B3.out.lt)
      have c3 := B3a.out.cell
      have N3 := Lib.hid (Blk.new w3 25 #[.int .i64 0, .int .u64 (UV 0#64), .int .u64 (UV 0#64), .int .u64 (UV 0#64), .int .u64 (UV 0#64), .int .u64 (UV 0#64), .int .u64 (UV 0#64), .int .u64 (UV 0#64), .int .u64 (UV 0#64)])
      have L3a := Lib.hid (L3.out.alloc L3.out.size (.cells #[.int .i64 0, .int .u64 (UV 0#64), .int .u64 (UV 0#64), .int .u64 (UV 0#64), .int .u64 (UV 0#64), .int .u64 (UV 0#64), .int .u64 (UV 0#64), .int .u64 (UV 0#64), .int .u64 (UV 0#64)] 25))
      simp only [Pg.val, pageV]
      go_wp2_with fail
      refine (WriteEpochR_any ⟨l', h', e0, e1, e2, e3, e4, e5, e6⟩ a1 _).mono ?_
      rintro e w4 ⟨rfl, hb4⟩
      rw [R.out]
      have N4 := Lib.hid (N3.out.below hb4 N3.out.lt)
      have L4 := Lib.hid (L3a.out.trans (hb4.mono L3a.out.size))
      clear c3 hb4
      have N4a := Lib.hid (N4.out.below (B := w4.heap.size) ((Below.refl _ _).alloc (Nat.le_refl _) (.cells #[.int .i64 0, .int .u64 (UV 0#64), .int .u64 (UV 0#64), .int .u64 (UV 0#64), .int .u64 (UV 0#64), .int .u64 (UV 0#64), .int .u64 (UV 0#64), .int .u64 (UV 0#64), .int .u64 (UV 0#64)] 25)) N4.out.lt)
      have c4 := N4a.out.cell
      have L4a := Lib.hid (L4.out.alloc L4.out.size (.cells #[.int .i64 0, .int .u64 (UV 0#64), .int .u64 (UV 0#64), .int .u64 (UV 0#64), .int .u64 (UV 0#64), .int .u64 (UV 0#64), .int .u64 (UV 0#64), .int .u64 (UV 0#64), .int .u64 (UV 0#64)] 25))
      simp only [Pg.val, pageV]
      go_wp2_with fail
      refine (awake_any _).mono ?_
      rintro e w' ⟨rfl, rfl⟩
      have c5 : ∀ o, ((w4.alloc (.cells #[.int .i64 0, .int .u64 (UV 0#64), .int .u64 (UV 0#64), .int .u64 (UV 0#64), .int .u64 (UV 0#64), .int .u64 (UV 0#64), .int .u64 (UV 0#64), .int .u64 (UV 0#64), .int .u64 (UV 0#64)] 25)).alloc (.cells #[.int .i64 0, .int .u64 (UV 0#64), .int .u64 (UV 0#64), .int .u64 (UV 0#64), .int .u64 (UV 0#64), .int .u64 (UV 0#64), .int .u64 (UV 0#64), .int .u64 (UV 0#64), .int .u64 (UV 0#64)] 25)).cell? ⟨w3.heap.size, o, none⟩ = (w4.alloc (.cells #[.int .i64 0, .int .u64 (UV 0#64), .int .u64 (UV 0#64), .int .u64 (UV 0#64), .int .u64 (UV 0#64), .int .u64 (UV 0#64), .int .u64 (UV 0#64), .int .u64 (UV 0#64), .int .u64 (UV 0#64)] 25)).cell? ⟨w3.heap.size, o, none⟩ := fun o => World.cell?_alloc_lt _ _ _ N4a.out.lt
      go_wp2_with fail
      have S1 : Hid (SlP (((w4.alloc (.cells #[.int .i64 0, .int .u64 (UV 0#64), .int .u64 (UV 0#64), .int .u64 (UV 0#64), .int .u64 (UV 0#64), .int .u64 (UV 0#64), .int .u64 (UV 0#64), .int .u64 (UV 0#64), .int .u64 (UV 0#64)] 25)).alloc (.cells #[.int .i64 0, .int .u64 (UV 0#64), .int .u64 (UV 0#64), .int .u64 (UV 0#64), .int .u64 (UV 0#64), .int .u64 (UV 0#64), .int .u64 (UV 0#64), .int .u64 (UV 0#64), .int .u64 (UV 0#64)] 25)).alloc (.cells #[.int .i64 0, .int .u64 (UV 0#64), .int .u64 (UV 0#64), .int .u64 (UV 0#64), .int .u64 (UV 0#64), .int .u64 (UV 0#64), .int .u64 (UV 0#64), .int .u64 (UV 0#64), .int .u64 (UV 0#64)] 25)) (.slice (some ⟨(w4.alloc (.cells #[.int .i64 0, .int .u64 (UV 0#64), .int .u64 (UV 0#64), .int .u64 (UV 0#64), .int .u64 (UV 0#64), .int .u64 (UV 0#64), .int .u64 (UV 0#64), .int .u64 (UV 0#64), .int .u64 (UV 0#64)] 25)).heap.size, 0, none⟩) 1 1) [⟨0, 0#64, 0#64, 0#64, 0#64, 0#64, 0#64, 0#64, 0#64⟩]) := (slp_one (w4.alloc (.cells #[.int .i64 0, .int .u64 (UV 0#64), .int .u64 (UV 0#64), .int .u64 (UV 0#64), .int .u64 (UV 0#64), .int .u64 (UV 0#64), .int .u64 (UV 0#64), .int .u64 (UV 0#64), .int .u64 (UV 0#64)] 25)) 25 0 0#64 0#64 0#64 0#64 0#64 0#64 0#64 0#64).alloc _
      have S2 : Hid (SlP (((w4.alloc (.cells #[.int .i64 0, .int .u64 (UV 0#64), .int .u64 (UV 0#64), .int .u64 (UV 0#64), .int .u64 (UV 0#64), .int .u64 (UV 0#64), .int .u64 (UV 0#64), .int .u64 (UV 0#64), .int .u64 (UV 0#64)] 25)).alloc (.cells #[.int .i64 0, .int .u64 (UV 0#64), .int .u64 (UV 0#64), .int .u64 (UV 0#64), .int .u64 (UV 0#64), .int .u64 (UV 0#64), .int .u64 (UV 0#64), .int .u64 (UV 0#64), .int .u64 (UV 0#64)] 25)).alloc (.cells #[.int .i64 0, .int .u64 (UV 0#64), .int .u64 (UV 0#64), .int .u64 (UV 0#64), .int .u64 (UV 0#64), .int .u64 (UV 0#64), .int .u64 (UV 0#64), .int .u64 (UV 0#64), .int .u64 (UV 0#64)] 25)) (.slice (some ⟨((w4.alloc (.cells #[.int .i64 0, .int .u64 (UV 0#64), .int .u64 (UV 0#64), .int .u64 (UV 0#64), .int .u64 (UV 0#64), .int .u64 (UV 0#64), .int .u64 (UV 0#64), .int .u64 (UV 0#64), .int .u64 (UV 0#64)] 25)).alloc (.cells #[.int .i64 0, .int .u64 (UV 0#64), .int .u64 (UV 0#64), .int .u64 (UV 0#64), .int .u64 (UV 0#64), .int .u64 (UV 0#64), .int .u64 (UV 0#64), .int .u64 (UV 0#64), .int .u64 (UV 0#64)] 25)).heap.size, 0, none⟩) 1 1) [⟨0, 0#64, 0#64, 0#64, 0#64, 0#64, 0#64, 0#64, 0#64⟩]) := slp_one ((w4.alloc (.cells #[.int .i64 0, .int .u64 (UV 0#64), .int .u64 (UV 0#64), .int .u64 (UV 0#64), .int .u64 (UV 0#64), .int .u64 (UV 0#64), .int .u64 (UV 0#64), .int .u64 (UV 0#64), .int .u64 (UV 0#64)] 25)).alloc (.cells #[.int .i64 0, .int .u64 (UV 0#64), .int .u64 (UV 0#64), .int .u64 (UV 0#64), .int .u64 (UV 0#64), .int .u64 (UV 0#64), .int .u64 (UV 0#64), .int .u64 (UV 0#64), .int .u64 (UV 0#64)] 25)) 25 0 0#64 0#64 0#64 0#64 0#64 0#64 0#64 0#64
      simp only [World.size_alloc] at S1 S2
      refine (SamePages_any _ _ [⟨0, 0#64, 0#64, 0#64, 0#64, 0#64, 0#64, 0#64, 0#64⟩] [⟨0, 0#64, 0#64, 0#64, 0#64, 0#64, 0#64, 0#64, 0#64⟩] _ S1.out S2.out).mono ?_
      rintro e w5 ⟨rfl, hb5⟩
      have hs : decide (([⟨0, 0#64, 0#64, 0#64, 0#64, 0#64, 0#64, 0#64, 0#64⟩] : List Pg) = [⟨0, 0#64, 0#64, 0#64, 0#64, 0#64, 0#64, 0#64, 0#64⟩]) = true := decide_eq_true rfl
      rw [hs]
      clear hs
      have N5 := Lib.hid (((N4a.out.alloc _).alloc _).below hb5 ((N4a.out.alloc _).alloc _).lt)
      have L5 := Lib.hid (((L4a.out.alloc L4a.out.size _).alloc (((L4a.out.alloc L4a.out.size _)).size) _).trans (hb5.mono (((L4a.out.alloc L4a.out.size _).alloc (((L4a.out.alloc L4a.out.size _)).size) _)).size))
      have c6 := N5.out.cell
      clear c5 hb5 c4
      go_wp2_with (first | (go_at_call 11; refine (Safe_any _ _ _).mono ?_; rintro e w' ⟨rfl, rfl⟩) | (go_at_call 12; refine (SafeR_any _ _ _).mono ?_; rintro e w' ⟨rfl, rfl⟩))
      go_ret
      exact ⟨rfl, L5.out⟩
    · have R := Lib.hid (writeE_ok ⟨l', h', e0, e1, e2, e3, e4, e5, e6⟩ a1 b1)
      have RE := Lib.hid (readE_back l' a1 b1)
      clear b1
      go_wp2_with fail
      refine (ReadEpoch_any _ _ _ _ _ _ _ _ _ _).mono ?_
      rintro e w1 ⟨rfl, hb1⟩
      have B1 := Lib.hid (B0.out.below hb1 B0.out.lt)
      have L1 := Lib.hid (L0.out.trans (hb1.mono L0.out.size))
      have c1 := B1.out.cell
      clear c0
      go_wp2_with fail
      refine (ReadEpochR_any _ _ _ _ _ _ _ _ _ _).mono ?_
      rintro e w2 ⟨rfl, hb2⟩
      have B2 := Lib.hid (B1.out.below hb2 B1.out.lt)
      have L2 := Lib.hid (L1.out.trans (hb2.mono L1.out.size))
      have c2 := B2.out.cell
      clear c1 hb1
      go_wp2_with fail
      refine (WriteEpoch_any ⟨l', h', e0, e1, e2, e3, e4, e5, e6⟩ a1 _).mono ?_
      rintro e w3 ⟨rfl, hb3⟩
      rw [R.out]
      have B3 := Lib.hid (B2.out.below hb3 B2.out.lt)
      have L3 := Lib.hid (L2.out.trans (hb3.mono L2.out.size))
      clear c2 hb2 hb3
      have B3a := Lib.hid (B3.out.below (B := w3.heap.size) ((Below.refl _ _).alloc (Nat.le_refl _) (.cells #[.int .i64 l', .int .u64 (UV h'), .int .u64 (UV (a1.setWidth 64)), .int .u64 (UV 0#64), .int .u64 (UV 0#64), .int .u64 (UV 0#64), .int .u64 (UV 0#64), .int .u64 (UV 0#64), .int .u64 (UV 0#64)] 25)) B3.out.lt)
      have c3 := B3a.out.cell
      have N3 := Lib.hid (Blk.new w3 25 #[.int .i64 l', .int .u64 (UV h'), .int .u64 (UV (a1.setWidth 64)), .int .u64 (UV 0#64), .int .u64 (UV 0#64), .int .u64 (UV 0#64), .int .u64 (UV 0#64), .int .u64 (UV 0#64), .int .u64 (UV 0#64)])
      have L3a := Lib.hid (L3.out.alloc L3.out.size (.cells #[.int .i64 l', .int .u64 (UV h'), .int .u64 (UV (a1.setWidth 64)), .int .u64 (UV 0#64), .int .u64 (UV 0#64), .int .u64 (UV 0#64), .int .u64 (UV 0#64), .int .u64 (UV 0#64), .int .u64 (UV 0#64)] 25))
      simp only [Pg.val, pageV]
      go_wp2_with fail
      refine (WriteEpochR_any ⟨l', h', e0, e1, e2, e3, e4, e5, e6⟩ a1 _).mono ?_
      rintro e w4 ⟨rfl, hb4⟩
      rw [R.out]
      have N4 := Lib.hid (N3.out.below hb4 N3.out.lt)
      have L4 := Lib.hid (L3a.out.trans (hb4.mono L3a.out.size))
      clear c3 hb4
      have N4a := Lib.hid (N4.out.below (B := w4.heap.size) ((Below.refl _ _).alloc (Nat.le_refl _) (.cells #[.int .i64 l', .int .u64 (UV h'), .int .u64 (UV (a1.setWidth 64)), .int .u64 (UV 0#64), .int .u64 (UV 0#64), .int .u64 (UV 0#64), .int .u64 (UV 0#64), .int .u64 (UV 0#64), .int .u64 (UV 0#64)] 25)) N4.out.lt)
      have c4 := N4a.out.cell
      have L4a := Lib.hid (L4.out.alloc L4.out.size (.cells #[.int .i64 l', .int .u64 (UV h'), .int .u64 (UV (a1.setWidth 64)), .int .u64 (UV 0#64), .int .u64 (UV 0#64), .int .u64 (UV 0#64), .int .u64 (UV 0#64), .int .u64 (UV 0#64), .int .u64 (UV 0#64)] 25))
      simp only [Pg.val, pageV]
      go_wp2_with fail
      refine (awake_any _).mono ?_
      rintro e w' ⟨rfl, rfl⟩
      have c5 : ∀ o, ((w4.alloc (.cells #[.int .i64 l', .int .u64 (UV h'), .int .u64 (UV (a1.setWidth 64)), .int .u64 (UV 0#64), .int .u64 (UV 0#64), .int .u64 (UV 0#64), .int .u64 (UV 0#64), .int .u64 (UV 0#64), .int .u64 (UV 0#64)] 25)).alloc (.cells #[.int .i64 l', .int .u64 (UV h'), .int .u64 (UV (a1.setWidth 64)), .int .u64 (UV 0#64), .int .u64 (UV 0#64), .int .u64 (UV 0#64), .int .u64 (UV 0#64), .int .u64 (UV 0#64), .int .u64 (UV 0#64)] 25)).cell? ⟨w3.heap.size, o, none⟩ = (w4.alloc (.cells #[.int .i64 l', .int .u64 (UV h'), .int .u64 (UV (a1.setWidth 64)), .int .u64 (UV 0#64), .int .u64 (UV 0#64), .int .u64 (UV 0#64), .int .u64 (UV 0#64), .int .u64 (UV 0#64), .int .u64 (UV 0#64)] 25)).cell? ⟨w3.heap.size, o, none⟩ := fun o => World.cell?_alloc_lt _ _ _ N4a.out.lt
      go_wp2_with fail
      have S1 : Hid (SlP (((w4.alloc (.cells #[.int .i64 l', .int .u64 (UV h'), .int .u64 (UV (a1.setWidth 64)), .int .u64 (UV 0#64), .int .u64 (UV 0#64), .int .u64 (UV 0#64), .int .u64 (UV 0#64), .int .u64 (UV 0#64), .int .u64 (UV 0#64)] 25)).alloc (.cells #[.int .i64 l', .int .u64 (UV h'), .int .u64 (UV (a1.setWidth 64)), .int .u64 (UV 0#64), .int .u64 (UV 0#64), .int .u64 (UV 0#64), .int .u64 (UV 0#64), .int .u64 (UV 0#64), .int .u64 (UV 0#64)] 25)).alloc (.cells #[.int .i64 l', .int .u64 (UV h'), .int .u64 (UV (a1.setWidth 64)), .int .u64 (UV 0#64), .int .u64 (UV 0#64), .int .u64 (UV 0#64), .int .u64 (UV 0#64), .int .u64 (UV 0#64), .int .u64 (UV 0#64)] 25)) (.slice (some ⟨(w4.alloc (.cells #[.int .i64 l', .int .u64 (UV h'), .int .u64 (UV (a1.setWidth 64)), .int .u64 (UV 0#64), .int .u64 (UV 0#64), .int .u64 (UV 0#64), .int .u64 (UV 0#64), .int .u64 (UV 0#64), .int .u64 (UV 0#64)] 25)).heap.size, 0, none⟩) 1 1) [⟨l', h', (a1.setWidth 64), 0#64, 0#64, 0#64, 0#64, 0#64, 0#64⟩]) := (slp_one (w4.alloc (.cells #[.int .i64 l', .int .u64 (UV h'), .int .u64 (UV (a1.setWidth 64)), .int .u64 (UV 0#64), .int .u64 (UV 0#64), .int .u64 (UV 0#64), .int .u64 (UV 0#64), .int .u64 (UV 0#64), .int .u64 (UV 0#64)] 25)) 25 l' h' (a1.setWidth 64) 0#64 0#64 0#64 0#64 0#64 0#64).alloc _
      have S2 : Hid (SlP (((w4.alloc (.cells #[.int .i64 l', .int .u64 (UV h'), .int .u64 (UV (a1.setWidth 64)), .int .u64 (UV 0#64), .int .u64 (UV 0#64), .int .u64 (UV 0#64), .int .u64 (UV 0#64), .int .u64 (UV 0#64), .int .u64 (UV 0#64)] 25)).alloc (.cells #[.int .i64 l', .int .u64 (UV h'), .int .u64 (UV (a1.setWidth 64)), .int .u64 (UV 0#64), .int .u64 (UV 0#64), .int .u64 (UV 0#64), .int .u64 (UV 0#64), .int .u64 (UV 0#64), .int .u64 (UV 0#64)] 25)).alloc (.cells #[.int .i64 l', .int .u64 (UV h'), .int .u64 (UV (a1.setWidth 64)), .int .u64 (UV 0#64), .int .u64 (UV 0#64), .int .u64 (UV 0#64), .int .u64 (UV 0#64), .int .u64 (UV 0#64), .int .u64 (UV 0#64)] 25)) (.slice (some ⟨((w4.alloc (.cells #[.int .i64 l', .int .u64 (UV h'), .int .u64 (UV (a1.setWidth 64)), .int .u64 (UV 0#64), .int .u64 (UV 0#64), .int .u64 (UV 0#64), .int .u64 (UV 0#64), .int .u64 (UV 0#64), .int .u64 (UV 0#64)] 25)).alloc (.cells #[.int .i64 l', .int .u64 (UV h'), .int .u64 (UV (a1.setWidth 64)), .int .u64 (UV 0#64), .int .u64 (UV 0#64), .int .u64 (UV 0#64), .int .u64 (UV 0#64), .int .u64 (UV 0#64), .int .u64 (UV 0#64)] 25)).heap.size, 0, none⟩) 1 1) [⟨l', h', (a1.setWidth 64), 0#64, 0#64, 0#64, 0#64, 0#64, 0#64⟩]) := slp_one ((w4.alloc (.cells #[.int .i64 l', .int .u64 (UV h'), .int .u64 (UV (a1.setWidth 64)), .int .u64 (UV 0#64), .int .u64 (UV 0#64), .int .u64 (UV 0#64), .int .u64 (UV 0#64), .int .u64 (UV 0#64), .int .u64 (UV 0#64)] 25)).alloc (.cells #[.int .i64 l', .int .u64 (UV h'), .int .u64 (UV (a1.setWidth 64)), .int .u64 (UV 0#64), .int .u64 (UV 0#64), .int .u64 (UV 0#64), .int .u64 (UV 0#64), .int .u64 (UV 0#64), .int .u64 (UV 0#64)] 25)) 25 l' h' (a1.setWidth 64) 0#64 0#64 0#64 0#64 0#64 0#64
      simp only [World.size_alloc] at S1 S2
      refine (SamePages_any _ _ [⟨l', h', (a1.setWidth 64), 0#64, 0#64, 0#64, 0#64, 0#64, 0#64⟩] [⟨l', h', (a1.setWidth 64), 0#64, 0#64, 0#64, 0#64, 0#64, 0#64⟩] _ S1.out S2.out).mono ?_
      rintro e w5 ⟨rfl, hb5⟩
      have hs : decide (([⟨l', h', (a1.setWidth 64), 0#64, 0#64, 0#64, 0#64, 0#64, 0#64⟩] : List Pg) = [⟨l', h', (a1.setWidth 64), 0#64, 0#64, 0#64, 0#64, 0#64, 0#64⟩]) = true := decide_eq_true rfl
      rw [hs]
      clear hs
      have N5 := Lib.hid (((N4a.out.alloc _).alloc _).below hb5 ((N4a.out.alloc _).alloc _).lt)
      have L5 := Lib.hid (((L4a.out.alloc L4a.out.size _).alloc (((L4a.out.alloc L4a.out.size _)).size) _).trans (hb5.mono (((L4a.out.alloc L4a.out.size _).alloc (((L4a.out.alloc L4a.out.size _)).size) _)).size))
      have c6 := N5.out.cell
      clear c5 hb5 c4
      go_wp2_with fail
      refine (ReadEpoch_any _ _ _ _ _ _ _ _ _ _).mono ?_
      rintro e w6 ⟨rfl, hb6⟩
      rw [RE.out]
      have L6 := Lib.hid (L5.out.trans (hb6.mono L5.out.size))
      clear c6 hb6
      go_wp2_with (first | (go_at_call 11; refine (Safe_any _ _ _).mono ?_; rintro e w' ⟨rfl, rfl⟩) | (go_at_call 12; refine (SafeR_any _ _ _).mono ?_; rintro e w' ⟨rfl, rfl⟩))
      go_ret
      exact ⟨rfl, L6.out⟩

set_option maxRecDepth 100000 in
theorem lifted (os : Os) (started : os.Started) (H : Type) (enc : TypeId × Value → H) :
    ReturnsInHanded {} Try.checked os 3 .any (Rows.epochPagesSpec.pre6 enc Try.prog Try.f3 Rows.epochPagesRow.domain false) (Rows.epochPagesSpec.post enc Try.prog Try.f3 false true false false) := by
  refine returnsInHanded_of_change (C := Try.checked) own started (by kernel_rfl) Try.func3
    (ChangeSpec.witness6 (enc := enc) (C := Try.checked) false ⟨#[], #[.agg #[.int .i64 0, .int .u64 0, .int .u64 0, .int .u64 0, .int .u64 0, .int .u64 0, .int .u64 0, .int .u64 0, .int .u64 0], .int .u32 0, .int .u32 0, .int .u32 0, .int .i64 0], []⟩ 8 (by kernel_rfl) (by kernel_rfl) (by kernel_rfl) (by kernel_rfl)) ?_
  intro W base args ds gs before hval0 hW hcnd _
  have hval : ∀ (j : Nat) t v, Try.f3.params[j]? = some t → args[j]? = some v → Value.okWide Try.prog W .any base t v := hval0
  have hW' := hW
  obtain ⟨p, q, hA0, hV, rfl, hfz, hnd⟩ := hW
  have hA : DataW.TrodAll enc Try.prog W 0 (fun _ => true) true Try.f3.params.toList args.toList ds p := hA0
  rw [Try.params3] at hA hval
  obtain ⟨v0, vs0, d0, ds0, p0, q0, hargs, rfl, rfl, h0, r0⟩ := trodAll_cons hA
  obtain ⟨v1, vs1, d1, ds1, p1, q1, rfl, rfl, rfl, h1, r1⟩ := trodAll_cons r0
  obtain ⟨v2, vs2, d2, ds2, p2, q2, rfl, rfl, rfl, h2, r2⟩ := trodAll_cons r1
  obtain ⟨v3, vs3, d3, ds3, p3, q3, rfl, rfl, rfl, h3, r3⟩ := trodAll_cons r2
  obtain ⟨v4, vs4, d4, ds4, p4, q4, rfl, rfl, rfl, h4, r4⟩ := trodAll_cons r3
  obtain ⟨rfl, rfl, rfl⟩ := trodAll_nil r4
  obtain rfl : args = #[v0, v1, v2, v3, v4] := by cases args; simp_all
  obtain ⟨rfl, rfl⟩ := trodVars_none hV
  have lt0 := trod_lt0 h0
  have lt1 := trod_lt0 h1
  have lt2 := trod_lt0 h2
  have lt3 := trod_lt0 h3
  have lt4 := trod_lt0 h4
  obtain ⟨a0, rfl⟩ := open_page (hval 0 25 v0 rfl rfl) h0
  obtain ⟨z1, rfl, _, _, wf1⟩ := open_int Try.underlying26 (hval 1 26 v1 rfl rfl) h1
  obtain ⟨a1, rfl⟩ := u32_of_wf wf1
  obtain ⟨z2, rfl, _, _, wf2⟩ := open_int Try.underlying26 (hval 2 26 v2 rfl rfl) h2
  obtain ⟨a2, rfl⟩ := u32_of_wf wf2
  obtain ⟨z3, rfl, _, _, wf3⟩ := open_int Try.underlying26 (hval 3 26 v3 rfl rfl) h3
  obtain ⟨a3, rfl⟩ := u32_of_wf wf3
  obtain ⟨a4, rfl, _, _, wf4⟩ := open_int Try.underlying3 (hval 4 3 v4 rfl rfl) h4
  clear hA0 hval0
  refine (walk a0 a1 a2 a3 a4 W (i64_of_wf wf4).1 (i64_of_wf wf4).2).mono fun e W' ⟨he, bel⟩ => ?_
  subst he
  exact ⟨_, rfl, _, _, _, [], _, [], hW', trodAll_mk1 (shut_bool Try.underlying4 _), (trodAll_cons_mk (Below.trod laidOut (by kernel_rfl) (of_decide_eq_true (by kernel_rfl)) h0 bel lt0) (trodAll_cons_mk (Below.trod laidOut (by kernel_rfl) (of_decide_eq_true (by kernel_rfl)) h1 bel lt1) (trodAll_cons_mk (Below.trod laidOut (by kernel_rfl) (of_decide_eq_true (by kernel_rfl)) h2 bel lt2) (trodAll_cons_mk (Below.trod laidOut (by kernel_rfl) (of_decide_eq_true (by kernel_rfl)) h3 bel lt3) (trodAll_cons_mk (Below.trod laidOut (by kernel_rfl) (of_decide_eq_true (by kernel_rfl)) h4 bel lt4) trodAll_mk0))))), rfl, bel.frame _, fun h => by cases h⟩

theorem over : Rows.epochPagesRow.holds Try.pinned (OpenSpec.ofChange Rows.epochPagesSpec) :=
  OpenClaim.holds_of_wide 3 Try.f3 rfl rfl rfl rfl rfl rfl rfl ⟨rfl, rfl, rfl, rfl, rfl⟩ rfl rfl rfl rfl rfl (by kernel_rfl) Try.func3 (by kernel_rfl)
    (of_decide_eq_true (by kernel_rfl)) (by unfold Func.isWrapper; first | (rw [if_pos (by decide +kernel)]; kernel_rfl) | (rw [if_neg (by decide +kernel)]; exact ⟨rfl, rfl⟩))
    (fun os started H enc _ => lifted os started H enc)
theorem proved : Rows.EpochPagesSaid := over
#print axioms proved
end Go.Proofs.Ytiababibapcmnaa.epochPages
