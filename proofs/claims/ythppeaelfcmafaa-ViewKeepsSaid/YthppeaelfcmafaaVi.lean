/- The walks of view.Parse and bodegaref9.ParseView. Own work. -/
import Derived.Test.YthppeaelfcmafaaVh
import Derived.Test.YthppeaelfcmafaaVp
namespace Go.Proofs.Ythppeaelfcmafaa
open Go.RowKit
set_option linter.unusedVariables false
theorem I64_and (y : BitVec 64) (m : Nat) (hm : m < 9223372036854775808) : I64 (y &&& BitVec.ofNat 64 m) = ((y &&& BitVec.ofNat 64 m).toNat : Int) := by
  unfold I64
  rw [BitVec.toInt_eq_toNat_cond, if_pos]
  have h : (y &&& BitVec.ofNat 64 m).toNat ≤ m := by
    rw [BitVec.toNat_and]
    refine Nat.le_trans Nat.and_le_right ?_
    rw [BitVec.toNat_ofNat]
    exact Nat.mod_le _ _
  omega
theorem I64_shr (y : BitVec 64) : I64 (y >>> 2) = ((y >>> 2).toNat : Int) := by
  unfold I64
  rw [BitVec.toInt_eq_toNat_cond, if_pos]
  rw [BitVec.toNat_ushiftRight, Nat.shiftRight_eq_div_pow]
  have := bv64 y
  omega
theorem and127_shr (y : BitVec 64) : (y >>> 2) &&& 31#64 = (y &&& 127#64) >>> 2 := by
  apply BitVec.eq_of_toNat_eq
  rw [BitVec.toNat_and, BitVec.toNat_ushiftRight, BitVec.toNat_ushiftRight, BitVec.toNat_and]
  have e1 : (31#64).toNat = 2 ^ 5 - 1 := rfl
  have e2 : (127#64).toNat = 2 ^ 7 - 1 := rfl
  rw [e1, e2, Nat.and_two_pow_sub_one_eq_mod, Nat.and_two_pow_sub_one_eq_mod, Nat.shiftRight_eq_div_pow, Nat.shiftRight_eq_div_pow]
  omega
theorem and127_bit (y c : BitVec 64) (h : c = 1#64 ∨ c = 2#64) : y &&& 127#64 &&& c = y &&& c := by
  rcases h with rfl | rfl <;> rw [BitVec.and_assoc] <;> rfl
theorem bit_ne (y c : BitVec 64) (h : c = 1#64 ∨ c = 2#64) : (y &&& c != 0#64) = decide (y &&& c = c) := by
  have h1 : ∀ j, (y &&& c).getLsbD j = (y.getLsbD j && c.getLsbD j) := fun j => BitVec.getLsbD_and
  have h2 : y &&& c = 0#64 ∨ y &&& c = c := by
    rcases h with rfl | rfl
    · have e : (1#64).toNat = 2 ^ 1 - 1 := rfl
      have := Nat.and_two_pow_sub_one_eq_mod y.toNat 1
      rcases Nat.mod_two_eq_zero_or_one y.toNat with g | g
      · left; apply BitVec.eq_of_toNat_eq; rw [BitVec.toNat_and, e, this]; exact g
      · right; apply BitVec.eq_of_toNat_eq; rw [BitVec.toNat_and, e, this]; exact g
    · cases hb : y.getLsbD 1 with
      | false =>
        left
        apply BitVec.eq_of_getLsbD_eq
        intro i hi
        rw [BitVec.getLsbD_and]
        rcases (show i = 1 ∨ i ≠ 1 by omega) with rfl | g
        · rw [hb]; rfl
        · have : (2#64).getLsbD i = false := by
            rw [BitVec.getLsbD]; have e : (2#64).toNat = 2 ^ 1 := rfl
            rw [e, Nat.testBit_two_pow]; simp; omega
          rw [this]; simp
      | true =>
        right
        apply BitVec.eq_of_getLsbD_eq
        intro i hi
        rw [BitVec.getLsbD_and]
        rcases (show i = 1 ∨ i ≠ 1 by omega) with rfl | g
        · rw [hb]; rfl
        · have : (2#64).getLsbD i = false := by
            rw [BitVec.getLsbD]; have e : (2#64).toNat = 2 ^ 1 := rfl
            rw [e, Nat.testBit_two_pow]; simp; omega
          rw [this]; simp
  rcases h2 with h2 | h2
  · rw [h2]; rcases h with rfl | rfl <;> rfl
  · rw [h2]; rcases h with rfl | rfl <;> rfl
/-- What the loops read of a word. -/
theorem parse_yes (x : BitVec 64) (k : Nat) (h : (x >>> (7 * k) &&& 1#64 != 0#64) = true) : parseM x k = [⟨k, I64 ((x >>> (7 * k)) >>> 2 &&& 31#64), x >>> (7 * k) &&& 2#64 != 0#64⟩] := by
  rw [bit_ne _ _ (.inl rfl)] at h
  have h := of_decide_eq_true h
  unfold parseM fieldV
  rw [and127_bit _ _ (.inl rfl), if_pos h, and127_bit _ _ (.inr rfl), I64_and _ 31 (by omega), and127_shr, bit_ne _ _ (.inr rfl)]
theorem parse_no (x : BitVec 64) (k : Nat) (h : (x >>> (7 * k) &&& 1#64 != 0#64) = false) : parseM x k = [] := by
  rw [bit_ne _ _ (.inl rfl)] at h
  have h := of_decide_eq_false h
  unfold parseM fieldV
  rw [and127_bit _ _ (.inl rfl), if_neg h]
theorem parse_yesR (x : BitVec 64) (k : Nat) (h : (x >>> (7 * k) &&& 127#64 &&& 1#64 == 1#64) = true) : parseM x k = [⟨k, I64 ((x >>> (7 * k) &&& 127#64) >>> 2), x >>> (7 * k) &&& 127#64 &&& 2#64 == 2#64⟩] := by
  have h := eq_of_beq h
  unfold parseM fieldV
  rw [if_pos h, I64_shr]
  rfl
theorem parse_noR (x : BitVec 64) (k : Nat) (h : (x >>> (7 * k) &&& 127#64 &&& 1#64 == 1#64) = false) : parseM x k = [] := by
  have h := beq_eq_false_iff_ne.1 h
  unfold parseM fieldV
  rw [if_neg h]
theorem shf7 (k : Nat) (h : k ≤ 5) : shf (BitVec.ofInt 64 (7 * (k : Int))) = 7 * k := by
  rw [shf_int _ (by omega) (by omega)]; omega
/-- The view that is parsed. -/
def parseV (num : Int) (x : BitVec 64) (nodes : Int) : Int × List Mb × Int := if validV num (parseL x 5) nodes = 0 ∧ wordV (parseL x 5) = x then (num, parseL x 5, 0) else (0, [], 14)
theorem parseV_ok {num : Int} {x : BitVec 64} {nodes : Int} (h : validV num (parseL x 5) nodes = 0) (h2 : wordV (parseL x 5) = x) : parseV num x nodes = (num, parseL x 5, 0) := if_pos ⟨h, h2⟩
theorem parseV_bad {num : Int} {x : BitVec 64} {nodes : Int} (h : validV num (parseL x 5) nodes ≠ 0) : parseV num x nodes = (0, [], 14) := if_neg (fun e => h e.1)
theorem parseV_word {num : Int} {x : BitVec 64} {nodes : Int} (h : wordV (parseL x 5) ≠ x) : parseV num x nodes = (0, [], 14) := if_neg (fun e => h e.2)
theorem valid_mono {num nodes : Int} {ms : List Mb} (h : validV num ms nodes = 0) : validV num ms 5 = 0 := by
  obtain ⟨h1, h2, h3, h4, h5, h6⟩ := validV_zero h
  refine validV_ok (by omega) h2 h3 (fun k hk => ?_) h5 h6
  have := h4 k hk
  unfold AscM at *
  exact ⟨this.1, by omega, this.2.2⟩
set_option maxHeartbeats 4000000 in
set_option maxRecDepth 100000 in
theorem Parse_any (num : Int) (x : BitVec 64) (nodes : Int) (w : World) :
    Calls Try.prog 14 #[.int .i64 num, .int .u64 (UV x), .int .i64 nodes] w fun e w' => ∃ v, e = .returned (.tuple #[viewV (parseV num x nodes).1 v, .int .i64 (parseV num x nodes).2.2]) ∧ SlM w' v (parseV num x nodes).2.1 ∧ Below w.heap.size w w' := by
  have L0 : Hid (Live w (w.alloc (.cells #[.int .i64 0, .slice none 0 0] 28)) _) := (Live.start w).alloc _ _
  have L1 := Lib.hid (L0.out.alloc #[.int .i64 num, .slice none 0 0] 28)
  go_enter Try.func14, Try.ntmps14
  go_wp2
  go_loopw [9, 10, 15] (fun _ _ s15 wr => ∃ (k : Nat) (s : Value), k ≤ 5 ∧ s15 = .int .i64 k ∧ Hid (wr.ownsRow (w.heap.size + 2) 45 3 s (parseL x k).length ((parseL x k).flatMap Mb.cells)) ∧ Hid (Live w wr [(w.heap.size + 1, 28, #[.int .i64 num, s]), (w.heap.size, 28, #[.int .i64 0, .slice none 0 0])])) (fun _ _ s15 _ => 5 - (intOf s15).toNat)
  case atStart =>
    refine ⟨0, _, by omega, rfl, (World.ownsRow_nil _ _ _ _ : World.ownsRow _ _ _ _ _ _ _), ?_⟩
    have := L1.out
    exact Lib.hid (by simpa using this)
  case round =>
    obtain ⟨k, s, hk, rfl, O, L⟩ := hrel
    have hlw := L.out.l0
    have cb := L.out.c0
    have fb := L.out.f0
    by_cases hlt : k < 5
    · have hltI : (k : Int) < 5 := by omega
      have S7 := Lib.hid (shf7 k (by omega))
      have hlen := parseL_len x k
      cases b : (x >>> shf (BitVec.ofInt 64 (7 * (k : Int))) &&& 1#64 != 0#64) with
      | true =>
        have PM : Hid (parseM x k = _) := parse_yes x k (by rw [← S7.out]; exact b)
        go_wp2_with (at_builtin; refine wpList_app rfl (.tmp 27) (.tmp 37) _ rfl (w.heap.size + 2) 45 _ 3 24 Try.underlying26 mb_info rfl (by omega) _ _ _ rfl (O.out.alloc _) _ 1 _ rfl (sl_new _ _ _ 3 1 1 rfl (by omega) (by omega)) (by intro u hu; simp at hu; rcases hu with rfl | rfl | rfl <;> rfl) (by omega) (by omega) (by simp; omega) ?_; intro v' w' hown' hg'; obtain ⟨oa, oc, rfl⟩ := own_form hown'; have L2 := Lib.hid ((L.out.alloc' _).callB (below_grown (Below.refl _ _) (O.out.alloc _) hg' (Nat.le_refl _) (by simp; omega)) (by omega) (by intro x hx; simp at hx; rcases hx with rfl | rfl <;> simp)); have O2 := Lib.hid hown'; clear hown' hg' cb fb; have cb := L2.out.c0; have fb := L2.out.f0)
        go_roundw
        case rel =>
          refine ⟨k + 1, _, by omega, by go_num, ?_, L2.out.set0 (by intro x hx; simp at hx; subst hx; simp) 1 _⟩
          show World.ownsRow _ _ _ _ _ _ _
          rw [parseL_succ, PM.out, List.flatMap_append, List.length_append]
          rw [S7.out] at O2
          exact ownsRow_setCell_below O2.out (a := ⟨w.heap.size + 1, 1, none⟩) (by show w.heap.size + 1 < _; omega) _
        case measure => simp [intOf]; omega
      | false =>
        have PM : Hid (parseM x k = _) := parse_no x k (by rw [← S7.out]; exact b)
        go_wp2
        go_roundw
        case rel =>
          refine ⟨k + 1, _, by omega, by go_num, ?_, L.out⟩
          show World.ownsRow _ _ _ _ _ _ _
          rw [parseL_succ, PM.out, List.append_nil]
          exact O.out
        case measure => simp [intOf]; omega
    · have hkn : k = 5 := by omega
      subst hkn
      have cr := L.out.tail.c0
      have fr := L.out.tail.f0
      obtain ⟨oa, oc, rfl⟩ := own_form O.out
      have M := Lib.hid (own_slm O.out)
      have V := Lib.hid (fun W (hw : SlM W (.slice oa (parseL x 5).length oc) (parseL x 5)) => Value_any num _ _ W hw)
      have V2 := Lib.hid (fun W (hw : SlM W (.slice oa (parseL x 5).length oc) (parseL x 5)) => Valid_any num nodes _ _ W hw)
      clear cb fb cr fr
      by_cases g1 : validV num (parseL x 5) 5 = 0
      case neg =>
        have R := Lib.hid (parseV_bad (x := x) (nodes := nodes) (fun e => g1 (valid_mono e)))
        rw [valueV_bad g1] at V
        generalize validV num (parseL x 5) 5 = z at *
        have g1' : (z != 0) = true := by rw [bne_iff_ne]; exact g1
        clear g1 V2
        generalize (parseL x 5).length = n at *
        have cb := L.out.c0
        go_wp2_with (go_at_call 11; refine (V.out _ M.out).mono ?_; rintro e w1 ⟨rfl, hb1⟩; have L1 := Lib.hid (L.out.call hb1); clear hb1 cb; have cb := L1.out.c0; have cr := L1.out.tail.c0; have fr := L1.out.tail.f0)
        have LF := Lib.hid ((L1.out.tail.set0 (by simp) 0 (.int .i64 0)).set0 (by simp) 1 (.slice none 0 0))
        obtain ⟨W, hW⟩ : ∃ W, W = (w1.setCell ⟨w.heap.size, 0, none⟩ (.int .i64 0)).setCell ⟨w.heap.size, 1, none⟩ (.slice none 0 0) := ⟨_, rfl⟩
        rw [← hW] at LF ⊢
        clear hW
        have cF := LF.out.c0
        refine bodyPost_ret (v := .tuple #[viewV 0 (.slice none 0 0), .int .i64 14]) (by simp [results, Try.results14, go_sem, viewV, cF]) rfl ⟨_, by rw [R.out], ?_, LF.out.below⟩
        rw [R.out]; exact SlM.nil _
      case pos =>
      rw [valueV_ok g1] at V
      clear g1
      by_cases g2 : wordV (parseL x 5) = x
      case neg =>
        have R := Lib.hid (parseV_word (num := num) (nodes := nodes) g2)
        have g2' : (wordV (parseL x 5) != x) = true := by rw [bne_iff_ne]; exact g2
        clear g2 V2
        generalize wordV (parseL x 5) = z at *
        generalize (parseL x 5).length = n at *
        have cb := L.out.c0
        go_wp2_with (go_at_call 11; refine (V.out _ M.out).mono ?_; rintro e w1 ⟨rfl, hb1⟩; have L1 := Lib.hid (L.out.call hb1); clear hb1 cb; have cb := L1.out.c0; have cr := L1.out.tail.c0; have fr := L1.out.tail.f0)
        have LF := Lib.hid ((L1.out.tail.set0 (by simp) 0 (.int .i64 0)).set0 (by simp) 1 (.slice none 0 0))
        obtain ⟨W, hW⟩ : ∃ W, W = (w1.setCell ⟨w.heap.size, 0, none⟩ (.int .i64 0)).setCell ⟨w.heap.size, 1, none⟩ (.slice none 0 0) := ⟨_, rfl⟩
        rw [← hW] at LF ⊢
        clear hW
        have cF := LF.out.c0
        refine bodyPost_ret (v := .tuple #[viewV 0 (.slice none 0 0), .int .i64 14]) (by simp [results, Try.results14, go_sem, viewV, cF]) rfl ⟨_, by rw [R.out], ?_, LF.out.below⟩
        rw [R.out]; exact SlM.nil _
      case pos =>
      by_cases g3 : validV num (parseL x 5) nodes = 0
      case neg =>
        have R := Lib.hid (parseV_bad g3)
        rw [g2] at V
        clear g2
        generalize validV num (parseL x 5) nodes = z at *
        have g3' : (z != 0) = true := by rw [bne_iff_ne]; exact g3
        clear g3
        generalize (parseL x 5).length = n at *
        have cb := L.out.c0
        go_wp2_with (first
          | (go_at_call 11; refine (V.out _ M.out).mono ?_; rintro e w1 ⟨rfl, hb1⟩; have L1 := Lib.hid (L.out.call hb1); have M1 := Lib.hid (M.out.below hb1); clear hb1 cb; have cb := L1.out.c0)
          | (go_at_call 19; refine (V2.out _ M1.out).mono ?_; rintro e w2 ⟨rfl, hb2⟩; have L2 := Lib.hid (L1.out.call hb2); clear hb2 cb; have cb := L2.out.c0; have cr := L2.out.tail.c0; have fr := L2.out.tail.f0))
        have LF := Lib.hid ((L2.out.tail.set0 (by simp) 0 (.int .i64 0)).set0 (by simp) 1 (.slice none 0 0))
        obtain ⟨W, hW⟩ : ∃ W, W = (w2.setCell ⟨w.heap.size, 0, none⟩ (.int .i64 0)).setCell ⟨w.heap.size, 1, none⟩ (.slice none 0 0) := ⟨_, rfl⟩
        rw [← hW] at LF ⊢
        clear hW
        have cF := LF.out.c0
        refine bodyPost_ret (v := .tuple #[viewV 0 (.slice none 0 0), .int .i64 14]) (by simp [results, Try.results14, go_sem, viewV, cF]) rfl ⟨_, by rw [R.out], ?_, LF.out.below⟩
        rw [R.out]; exact SlM.nil _
      case pos =>
        have R := Lib.hid (parseV_ok g3 g2)
        rw [g2] at V
        rw [g3] at V2
        clear g2 g3
        obtain ⟨n, hn⟩ : ∃ n, n = (parseL x 5).length := ⟨_, rfl⟩
        rw [← hn] at O L M V V2
        clear hn
        have cb := L.out.c0
        go_wp2_with (first
          | (go_at_call 11; refine (V.out _ M.out).mono ?_; rintro e w1 ⟨rfl, hb1⟩; have L1 := Lib.hid (L.out.call hb1); have M1 := Lib.hid (M.out.below hb1); have O1 := Lib.hid (own_below O.out hb1 (Nat.le_refl _)); clear hb1 cb; have cb := L1.out.c0)
          | (go_at_call 19; refine (V2.out _ M1.out).mono ?_; rintro e w2 ⟨rfl, hb2⟩; have L2 := Lib.hid (L1.out.call hb2); have O2 := Lib.hid (own_below O1.out hb2 (Nat.le_refl _)); clear hb2 cb; have cb := L2.out.c0; have cr := L2.out.tail.c0; have fr := L2.out.tail.f0))
        have LF := Lib.hid ((L2.out.tail.set0 (by simp) 0 (.int .i64 num)).set0 (by simp) 1 (.slice oa n oc))
        obtain ⟨W, hW⟩ : ∃ W, W = (w2.setCell ⟨w.heap.size, 0, none⟩ (.int .i64 num)).setCell ⟨w.heap.size, 1, none⟩ (.slice oa n oc) := ⟨_, rfl⟩
        have hM : SlM W (.slice oa n oc) (parseL x 5) := by rw [hW]; exact slm_set O2.out (by omega) _ _ _ _
        rw [← hW] at LF ⊢
        clear hW
        have cF := LF.out.c0
        refine bodyPost_ret (v := .tuple #[viewV num (.slice oa n oc), .int .i64 0]) (by simp [results, Try.results14, go_sem, viewV, cF]) rfl ⟨_, by rw [R.out], ?_, LF.out.below⟩
        rw [R.out]; exact hM
end Go.Proofs.Ythppeaelfcmafaa
