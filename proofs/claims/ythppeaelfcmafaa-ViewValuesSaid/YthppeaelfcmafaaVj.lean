/- The walk of bodegaref9.ParseView. Own work. -/
import Derived.Test.YthppeaelfcmafaaVi
namespace Go.Proofs.Ythppeaelfcmafaa
open Go.RowKit
set_option linter.unusedVariables false
set_option maxHeartbeats 4000000 in
set_option maxRecDepth 100000 in
theorem ParseView_any (num : Int) (x : BitVec 64) (nodes : Int) (w : World) :
    Calls Try.prog 15 #[.int .i64 num, .int .u64 (UV x), .int .i64 nodes] w fun e w' => ∃ v, e = .returned (.tuple #[viewV (parseV num x nodes).1 v, .int .i64 (parseV num x nodes).2.2]) ∧ SlM w' v (parseV num x nodes).2.1 ∧ Below w.heap.size w w' := by
  have L0 : Hid (Live w (w.alloc (.cells #[.int .i64 0, .slice none 0 0] 28)) _) := (Live.start w).alloc _ _
  have L1 := Lib.hid (L0.out.alloc #[.int .i64 num, .slice none 0 0] 28)
  go_enter Try.func15, Try.ntmps15
  go_wp2
  go_loopw [9, 10] (fun s9 _ wr => ∃ (k : Nat) (s : Value), k ≤ 5 ∧ s9 = .int .i64 k ∧ Hid (wr.ownsRow (w.heap.size + 2) 45 3 s (parseL x k).length ((parseL x k).flatMap Mb.cells)) ∧ Hid (Live w wr [(w.heap.size + 1, 28, #[.int .i64 num, s]), (w.heap.size, 28, #[.int .i64 0, .slice none 0 0])])) (fun s9 _ _ => 5 - (intOf s9).toNat)
  case atStart =>
    refine ⟨0, _, by omega, rfl, (World.ownsRow_nil _ _ _ _ : World.ownsRow _ _ _ _ _ _ _), ?_⟩
    have := L1.out
    exact Lib.hid (by simpa using this)
  case round =>
    obtain ⟨k, s, hk, rfl, O, L⟩ := hrel
    have hlw := L.out.l0
    have cb := L.out.c0
    have fb := L.out.f0
    by_cases hlt : k < 5
    · have hltI : (k : Int) < 5 := by omega
      have S7 := Lib.hid (shf7 k (by omega))
      have hlen := parseL_len x k
      cases b : (x >>> shf (BitVec.ofInt 64 (7 * (k : Int))) &&& 127#64 &&& 1#64 == 1#64) with
      | true =>
        have PM : Hid (parseM x k = _) := parse_yesR x k (by rw [← S7.out]; exact b)
        go_wp2_with (at_builtin; refine wpList_app rfl (.tmp 29) (.tmp 38) _ rfl (w.heap.size + 2) 45 _ 3 24 Try.underlying26 mb_info rfl (by omega) _ _ _ rfl (O.out.alloc _) _ 1 _ rfl (sl_new _ _ _ 3 1 1 rfl (by omega) (by omega)) (by intro u hu; simp at hu; rcases hu with rfl | rfl | rfl <;> rfl) (by omega) (by omega) (by simp; omega) ?_; intro v' w' hown' hg'; obtain ⟨oa, oc, rfl⟩ := own_form hown'; have L2 := Lib.hid ((L.out.alloc' _).callB (below_grown (Below.refl _ _) (O.out.alloc _) hg' (Nat.le_refl _) (by simp; omega)) (by omega) (by intro x hx; simp at hx; rcases hx with rfl | rfl <;> simp)); have O2 := Lib.hid hown'; clear hown' hg' cb fb; have cb := L2.out.c0; have fb := L2.out.f0)
        go_roundw
        case rel =>
          refine ⟨k + 1, _, by omega, by go_num, ?_, L2.out.set0 (by intro x hx; simp at hx; subst hx; simp) 1 _⟩
          show World.ownsRow _ _ _ _ _ _ _
          rw [parseL_succ, PM.out, List.flatMap_append, List.length_append]
          rw [S7.out] at O2
          exact ownsRow_setCell_below O2.out (a := ⟨w.heap.size + 1, 1, none⟩) (by show w.heap.size + 1 < _; omega) _
        case measure => simp [intOf]; omega
      | false =>
        have PM : Hid (parseM x k = _) := parse_noR x k (by rw [← S7.out]; exact b)
        go_wp2
        go_roundw
        case rel =>
          refine ⟨k + 1, _, by omega, by go_num, ?_, L.out⟩
          show World.ownsRow _ _ _ _ _ _ _
          rw [parseL_succ, PM.out, List.append_nil]
          exact O.out
        case measure => simp [intOf]; omega
    · have hkn : k = 5 := by omega
      subst hkn
      have hlen := parseL_len x 5
      obtain ⟨oa, oc, rfl⟩ := own_form O.out
      have M := Lib.hid (own_slm O.out)
      have V := Lib.hid (fun W (hw : SlM W (.slice oa (parseL x 5).length oc) (parseL x 5)) => ValueR_any num _ _ W hw (by omega))
      have V2 := Lib.hid (fun W (hw : SlM W (.slice oa (parseL x 5).length oc) (parseL x 5)) => ValidView_any num nodes _ _ W hw (by omega))
      clear cb fb
      by_cases g3 : validV num (parseL x 5) nodes = 0
      case neg =>
        have R := Lib.hid (parseV_bad (x := x) g3)
        generalize validV num (parseL x 5) nodes = z at *
        have g3' : (z != 0) = true := by rw [bne_iff_ne]; exact g3
        clear g3 V
        generalize (parseL x 5).length = n at *
        have cb := L.out.c0
        go_wp2_with (go_at_call 20; refine (V2.out _ M.out).mono ?_; rintro e w1 ⟨rfl, hb1⟩; have L1 := Lib.hid (L.out.call hb1); clear hb1 cb; have cb := L1.out.c0; have cr := L1.out.tail.c0; have fr := L1.out.tail.f0)
        have LF := Lib.hid ((L1.out.tail.set0 (by simp) 0 (.int .i64 0)).set0 (by simp) 1 (.slice none 0 0))
        obtain ⟨W, hW⟩ : ∃ W, W = (w1.setCell ⟨w.heap.size, 0, none⟩ (.int .i64 0)).setCell ⟨w.heap.size, 1, none⟩ (.slice none 0 0) := ⟨_, rfl⟩
        rw [← hW] at LF ⊢
        clear hW
        have cF := LF.out.c0
        refine bodyPost_ret (v := .tuple #[viewV 0 (.slice none 0 0), .int .i64 14]) (by simp [results, Try.results15, go_sem, viewV, cF]) rfl ⟨_, by rw [R.out], ?_, LF.out.below⟩
        rw [R.out]; exact SlM.nil _
      case pos =>
      rw [valueV_ok (valid_mono g3)] at V
      rw [g3] at V2
      by_cases g2 : wordV (parseL x 5) = x
      case neg =>
        have R := Lib.hid (parseV_word (num := num) (nodes := nodes) g2)
        have g2' : (wordV (parseL x 5) != x) = true := by rw [bne_iff_ne]; exact g2
        clear g2 g3
        generalize wordV (parseL x 5) = z at *
        generalize (parseL x 5).length = n at *
        have cb := L.out.c0
        go_wp2_with (first
          | (go_at_call 20; refine (V2.out _ M.out).mono ?_; rintro e w1 ⟨rfl, hb1⟩; have L1 := Lib.hid (L.out.call hb1); have M1 := Lib.hid (M.out.below hb1); clear hb1 cb; have cb := L1.out.c0)
          | (go_at_call 12; refine (V.out _ M1.out).mono ?_; rintro e w2 ⟨rfl, hb2⟩; have L2 := Lib.hid (L1.out.call hb2); clear hb2 cb; have cb := L2.out.c0; have cr := L2.out.tail.c0; have fr := L2.out.tail.f0))
        have LF := Lib.hid ((L2.out.tail.set0 (by simp) 0 (.int .i64 0)).set0 (by simp) 1 (.slice none 0 0))
        obtain ⟨W, hW⟩ : ∃ W, W = (w2.setCell ⟨w.heap.size, 0, none⟩ (.int .i64 0)).setCell ⟨w.heap.size, 1, none⟩ (.slice none 0 0) := ⟨_, rfl⟩
        rw [← hW] at LF ⊢
        clear hW
        have cF := LF.out.c0
        refine bodyPost_ret (v := .tuple #[viewV 0 (.slice none 0 0), .int .i64 14]) (by simp [results, Try.results15, go_sem, viewV, cF]) rfl ⟨_, by rw [R.out], ?_, LF.out.below⟩
        rw [R.out]; exact SlM.nil _
      case pos =>
        have R := Lib.hid (parseV_ok g3 g2)
        rw [g2] at V
        clear g2 g3
        obtain ⟨n, hn⟩ : ∃ n, n = (parseL x 5).length := ⟨_, rfl⟩
        rw [← hn] at O L M V V2
        clear hn
        have cb := L.out.c0
        go_wp2_with (first
          | (go_at_call 20; refine (V2.out _ M.out).mono ?_; rintro e w1 ⟨rfl, hb1⟩; have L1 := Lib.hid (L.out.call hb1); have M1 := Lib.hid (M.out.below hb1); have O1 := Lib.hid (own_below O.out hb1 (Nat.le_refl _)); clear hb1 cb; have cb := L1.out.c0)
          | (go_at_call 12; refine (V.out _ M1.out).mono ?_; rintro e w2 ⟨rfl, hb2⟩; have L2 := Lib.hid (L1.out.call hb2); have O2 := Lib.hid (own_below O1.out hb2 (Nat.le_refl _)); clear hb2 cb; have cb := L2.out.c0; have cr := L2.out.tail.c0; have fr := L2.out.tail.f0))
        have LF := Lib.hid ((L2.out.tail.set0 (by simp) 0 (.int .i64 num)).set0 (by simp) 1 (.slice oa n oc))
        obtain ⟨W, hW⟩ : ∃ W, W = (w2.setCell ⟨w.heap.size, 0, none⟩ (.int .i64 num)).setCell ⟨w.heap.size, 1, none⟩ (.slice oa n oc) := ⟨_, rfl⟩
        have hM : SlM W (.slice oa n oc) (parseL x 5) := by rw [hW]; exact slm_set O2.out (by omega) _ _ _ _
        rw [← hW] at LF ⊢
        clear hW
        have cF := LF.out.c0
        refine bodyPost_ret (v := .tuple #[viewV num (.slice oa n oc), .int .i64 0]) (by simp [results, Try.results15, go_sem, viewV, cF]) rfl ⟨_, by rw [R.out], ?_, LF.out.below⟩
        rw [R.out]; exact hM
end Go.Proofs.Ythppeaelfcmafaa
