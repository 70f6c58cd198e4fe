/- Contract of view.Parse. Own work. -/
import Derived.Test.YthppeaelfcmafaaPp
namespace Go.Proofs.Ythppeaelfcmafaa
open Go.RowKit
set_option linter.unusedVariables false
set_option maxRecDepth 100000
theorem I64_and (y : BitVec 64) (m : Nat) (hm : m < 9223372036854775808) : I64 (y &&& BitVec.ofNat 64 m) = ((y &&& BitVec.ofNat 64 m).toNat : Int) := by
  unfold I64
  rw [BitVec.toInt_eq_toNat_cond, if_pos]
  have h : (y &&& BitVec.ofNat 64 m).toNat ≤ m := by
    rw [BitVec.toNat_and]
    refine Nat.le_trans Nat.and_le_right ?_
    rw [BitVec.toNat_ofNat]
    exact Nat.mod_le _ _
  omega
theorem I64_shr (y : BitVec 64) : I64 (y >>> 2) = ((y >>> 2).toNat : Int) := by
  unfold I64
  rw [BitVec.toInt_eq_toNat_cond, if_pos]
  rw [BitVec.toNat_ushiftRight, Nat.shiftRight_eq_div_pow]
  have := bv64 y
  omega
theorem and127_shr (y : BitVec 64) : (y >>> 2) &&& 31#64 = (y &&& 127#64) >>> 2 := by
  apply BitVec.eq_of_toNat_eq
  rw [BitVec.toNat_and, BitVec.toNat_ushiftRight, BitVec.toNat_ushiftRight, BitVec.toNat_and]
  have e1 : (31#64).toNat = 2 ^ 5 - 1 := rfl
  have e2 : (127#64).toNat = 2 ^ 7 - 1 := rfl
  rw [e1, e2, Nat.and_two_pow_sub_one_eq_mod, Nat.and_two_pow_sub_one_eq_mod, Nat.shiftRight_eq_div_pow, Nat.shiftRight_eq_div_pow]
  omega
theorem and127_bit (y c : BitVec 64) (h : c = 1#64 ∨ c = 2#64) : y &&& 127#64 &&& c = y &&& c := by
  rcases h with rfl | rfl <;> rw [BitVec.and_assoc] <;> rfl
theorem bit_ne (y c : BitVec 64) (h : c = 1#64 ∨ c = 2#64) : (y &&& c != 0#64) = decide (y &&& c = c) := by
  have h1 : ∀ j, (y &&& c).getLsbD j = (y.getLsbD j && c.getLsbD j) := fun j => BitVec.getLsbD_and
  have h2 : y &&& c = 0#64 ∨ y &&& c = c := by
    rcases h with rfl | rfl
    · have e : (1#64).toNat = 2 ^ 1 - 1 := rfl
      have := Nat.and_two_pow_sub_one_eq_mod y.toNat 1
      rcases Nat.mod_two_eq_zero_or_one y.toNat with g | g
      · left; apply BitVec.eq_of_toNat_eq; rw [BitVec.toNat_and, e, this]; exact g
      · right; apply BitVec.eq_of_toNat_eq; rw [BitVec.toNat_and, e, this]; exact g
    · cases hb : y.getLsbD 1 with
      | false =>
        left
        apply BitVec.eq_of_getLsbD_eq
        intro i hi
        rw [BitVec.getLsbD_and]
        rcases (show i = 1 ∨ i ≠ 1 by omega) with rfl | g
        · rw [hb]; rfl
        · have : (2#64).getLsbD i = false := by
            rw [BitVec.getLsbD]; have e : (2#64).toNat = 2 ^ 1 := rfl
            rw [e, Nat.testBit_two_pow]; simp; omega
          rw [this]; simp
      | true =>
        right
        apply BitVec.eq_of_getLsbD_eq
        intro i hi
        rw [BitVec.getLsbD_and]
        rcases (show i = 1 ∨ i ≠ 1 by omega) with rfl | g
        · rw [hb]; rfl
        · have : (2#64).getLsbD i = false := by
            rw [BitVec.getLsbD]; have e : (2#64).toNat = 2 ^ 1 := rfl
            rw [e, Nat.testBit_two_pow]; simp; omega
          rw [this]; simp
  rcases h2 with h2 | h2
  · rw [h2]; rcases h with rfl | rfl <;> rfl
  · rw [h2]; rcases h with rfl | rfl <;> rfl
/-- What the loops read of a word. -/
theorem parse_yes (x : BitVec 64) (k : Nat) (h : (x >>> (7 * k) &&& 1#64 != 0#64) = true) : parseM x k = [⟨k, I64 ((x >>> (7 * k)) >>> 2 &&& 31#64), x >>> (7 * k) &&& 2#64 != 0#64⟩] := by
  rw [bit_ne _ _ (.inl rfl)] at h
  have h := of_decide_eq_true h
  unfold parseM fieldV
  rw [and127_bit _ _ (.inl rfl), if_pos h, and127_bit _ _ (.inr rfl), I64_and _ 31 (by omega), and127_shr, bit_ne _ _ (.inr rfl)]
theorem parse_no (x : BitVec 64) (k : Nat) (h : (x >>> (7 * k) &&& 1#64 != 0#64) = false) : parseM x k = [] := by
  rw [bit_ne _ _ (.inl rfl)] at h
  have h := of_decide_eq_false h
  unfold parseM fieldV
  rw [and127_bit _ _ (.inl rfl), if_neg h]
theorem parse_yesR (x : BitVec 64) (k : Nat) (h : (x >>> (7 * k) &&& 127#64 &&& 1#64 == 1#64) = true) : parseM x k = [⟨k, I64 ((x >>> (7 * k) &&& 127#64) >>> 2), x >>> (7 * k) &&& 127#64 &&& 2#64 == 2#64⟩] := by
  have h := eq_of_beq h
  unfold parseM fieldV
  rw [if_pos h, I64_shr]
  rfl
theorem parse_noR (x : BitVec 64) (k : Nat) (h : (x >>> (7 * k) &&& 127#64 &&& 1#64 == 1#64) = false) : parseM x k = [] := by
  have h := beq_eq_false_iff_ne.1 h
  unfold parseM fieldV
  rw [if_neg h]
/-- The view that is parsed. -/
def parseV (num : Int) (x : BitVec 64) (nodes : Int) : Int × List Mb × Int := if validV num (parseL x 5) nodes = 0 ∧ wordV (parseL x 5) = x then (num, parseL x 5, 0) else (0, [], 14)
theorem parseV_ok {num : Int} {x : BitVec 64} {nodes : Int} (h : validV num (parseL x 5) nodes = 0) (h2 : wordV (parseL x 5) = x) : parseV num x nodes = (num, parseL x 5, 0) := if_pos ⟨h, h2⟩
theorem parseV_bad {num : Int} {x : BitVec 64} {nodes : Int} (h : validV num (parseL x 5) nodes ≠ 0) : parseV num x nodes = (0, [], 14) := if_neg (fun e => h e.1)
theorem parseV_word {num : Int} {x : BitVec 64} {nodes : Int} (h : wordV (parseL x 5) ≠ x) : parseV num x nodes = (0, [], 14) := if_neg (fun e => h e.2)
theorem valid_mono {num nodes : Int} {ms : List Mb} (h : validV num ms nodes = 0) : validV num ms 5 = 0 := by
  obtain ⟨h1, h2, h3, h4, h5, h6⟩ := validV_zero h
  refine validV_ok (by omega) h2 h3 (fun k hk => ?_) h5 h6
  have := h4 k hk
  unfold AscM at *
  exact ⟨this.1, by omega, this.2.2⟩
theorem UV_ne0 (y : BitVec 64) : (UV y != 0) = (y != 0#64) := by
  show (UV y != UV 0#64) = _
  rw [UV_bne]
set_option maxHeartbeats 2000000 in
-- view.Parse: function 14
theorem Parse_ok (num : Int) (x : BitVec 64) (nodes : Int) : FnP Try.prog 14 [Is (.int .i64 num), Is (.int .u64 (UV x)), Is (.int .i64 nodes)] (IsTup [IsView (parseV num x nodes).1 (parseV num x nodes).2.1, Is (.int .i64 (parseV num x nodes).2.2)]) := by
  refine FnP.enter Try.func14 Try.ntmps14 rfl rfl ?_
  intro c hX
  (repeat (first | with_reducible refine JC_seq ?_ | with_reducible refine JQ_then ?_ | with_reducible refine JC_block ?_ | with_reducible refine JC_skip ?_ | with_reducible refine JC_exit ?_ | with_reducible refine JQ_then_exit ?_ | with_reducible refine JQ_then_ret ?_ | with_reducible refine JQ_block ?_ | with_reducible refine JQ_block_ret ?_ | with_reducible refine JQ_hit ?_ | ((with_reducible refine JQ_block_miss ?_ ?_); (focus exact rfl)) | with_reducible refine JC_ret ?_ | with_reducible refine JQ_end ?_))
  refine JC_buf0 45 tMb ?_
  (repeat (first | with_reducible refine JC_seq ?_ | with_reducible refine JQ_then ?_ | with_reducible refine JC_block ?_ | with_reducible refine JC_skip ?_ | with_reducible refine JC_exit ?_ | with_reducible refine JQ_then_exit ?_ | with_reducible refine JQ_then_ret ?_ | with_reducible refine JQ_block ?_ | with_reducible refine JQ_block_ret ?_ | with_reducible refine JQ_hit ?_ | ((with_reducible refine JQ_block_miss ?_ ?_); (focus exact rfl)) | with_reducible refine JC_ret ?_ | with_reducible refine JQ_end ?_))
  refine JC_region ?_
  (refine JL_n rfl (op_alloc rfl rfl) ?_; intro i6)
  refine JL_1 rfl (op_assign rfl) ?_
  refine JL_nil ?_
  (repeat (first | with_reducible refine JC_seq ?_ | with_reducible refine JQ_then ?_ | with_reducible refine JC_block ?_ | with_reducible refine JC_skip ?_ | with_reducible refine JC_exit ?_ | with_reducible refine JQ_then_exit ?_ | with_reducible refine JQ_then_ret ?_ | with_reducible refine JQ_block ?_ | with_reducible refine JQ_block_ret ?_ | with_reducible refine JQ_hit ?_ | ((with_reducible refine JQ_block_miss ?_ ?_); (focus exact rfl)) | with_reducible refine JC_ret ?_ | with_reducible refine JQ_end ?_))
  (repeat (first | with_reducible refine JC_seq ?_ | with_reducible refine JQ_then ?_ | with_reducible refine JC_block ?_ | with_reducible refine JC_skip ?_ | with_reducible refine JC_exit ?_ | with_reducible refine JQ_then_exit ?_ | with_reducible refine JQ_then_ret ?_ | with_reducible refine JQ_block ?_ | with_reducible refine JQ_block_ret ?_ | with_reducible refine JQ_hit ?_ | ((with_reducible refine JQ_block_miss ?_ ?_); (focus exact rfl)) | with_reducible refine JC_ret ?_ | with_reducible refine JQ_end ?_))
  refine JC_region ?_
  refine JL_1 rfl (op_move rfl) ?_
  refine JL_1 rfl (op_build (qs := [(0, _)]) rfl rfl rfl rfl ⟨⟨rfl, _, (Ev.rfl' rfl), (by first | exact cells_agg | exact cells_is rfl | exact cells_sl | exact cells_ref | exact cells_lit rfl)⟩, trivial⟩ (by rfl)) ?_
  (refine JL_n rfl (op_alloc rfl rfl) ?_; intro i8)
  refine JL_s0 (op_store (Ev.rfl' rfl) (Ev.rfl' rfl) (by first | exact cells_agg | exact cells_is rfl | exact cells_sl | exact cells_ref | exact cells_lit rfl) (by repeat (first | exact Repl.head _ _ _ | apply Repl.tail)) (by rfl) (by rfl) (by rfl)) ?_
  refine JL_nil ?_
  (repeat (first | with_reducible refine JC_seq ?_ | with_reducible refine JQ_then ?_ | with_reducible refine JC_block ?_ | with_reducible refine JC_skip ?_ | with_reducible refine JC_exit ?_ | with_reducible refine JQ_then_exit ?_ | with_reducible refine JQ_then_ret ?_ | with_reducible refine JQ_block ?_ | with_reducible refine JQ_block_ret ?_ | with_reducible refine JQ_hit ?_ | ((with_reducible refine JQ_block_miss ?_ ?_); (focus exact rfl)) | with_reducible refine JC_ret ?_ | with_reducible refine JQ_end ?_))
  (repeat (first | with_reducible refine JC_seq ?_ | with_reducible refine JQ_then ?_ | with_reducible refine JC_block ?_ | with_reducible refine JC_skip ?_ | with_reducible refine JC_exit ?_ | with_reducible refine JQ_then_exit ?_ | with_reducible refine JQ_then_ret ?_ | with_reducible refine JQ_block ?_ | with_reducible refine JQ_block_ret ?_ | with_reducible refine JQ_hit ?_ | ((with_reducible refine JQ_block_miss ?_ ?_); (focus exact rfl)) | with_reducible refine JC_ret ?_ | with_reducible refine JQ_end ?_))
  refine JC_region ?_
  refine JL_1 rfl (op_move rfl) ?_
  refine JL_nil ?_
  (repeat (first | with_reducible refine JC_seq ?_ | with_reducible refine JQ_then ?_ | with_reducible refine JC_block ?_ | with_reducible refine JC_skip ?_ | with_reducible refine JC_exit ?_ | with_reducible refine JQ_then_exit ?_ | with_reducible refine JQ_then_ret ?_ | with_reducible refine JQ_block ?_ | with_reducible refine JQ_block_ret ?_ | with_reducible refine JQ_hit ?_ | ((with_reducible refine JQ_block_miss ?_ ?_); (focus exact rfl)) | with_reducible refine JC_ret ?_ | with_reducible refine JQ_end ?_))
  refine JC_loopP (fun i : Nat × (Option Addr × Nat) => i.1 ≤ 5) (fun i => [(0, Is (.int .i64 num)), (1, Is (.int .u64 (UV x))), (2, Is (.int .i64 nodes)), (6, Is (.pointer (some ⟨i6, 0, none⟩))), (8, Is (.pointer (some ⟨i8, 0, none⟩))), (15, Is (.int .i64 (i.1 : Nat)))])
    (fun i => [blk i8 28 [Is (.int .i64 num), Is (slV (parseL x i.1).length i.2)], blk i6 28 [Is (.int .i64 0), Is (.slice none 0 0)], buf (slV (parseL x i.1).length i.2) 45 tMb (parseL x i.1)]) (fun i => 5 - i.1) (0, (none, 0)) (Nat.zero_le _) (by (repeat (refine ⟨⟨_, rfl, (by (repeat' (first | exact SubL.rfl' | exact SubL.nil | exact SubL.top | exact trivial | refine SubL.agg ?_ | refine SubL.tup ?_ | exact SubL.fact (by repeat (first | exact List.Mem.head _ | apply List.Mem.tail)) | refine SubL.row (by rfl) (by rfl) ?_ | refine SubL.lit rfl ?_ | refine SubL.iteT (by first | assumption | (simp; done) | (simp_all; done)) ?_ | refine ⟨?_, ?_⟩)))⟩, ?_⟩)); exact trivial) (by repeat (first | exact SubP.nil _ | refine SubP.cons (by repeat (first | exact Drop1.here _ _ | apply Drop1.next)) ?_)) ?_
  rintro ⟨k, s⟩ hk
  dsimp only at hk ⊢
  have hlen := parseL_len x k
  have hsu := parseL_succ x k
  (repeat (first | with_reducible refine JC_seq ?_ | with_reducible refine JQ_then ?_ | with_reducible refine JC_block ?_ | with_reducible refine JC_skip ?_ | with_reducible refine JC_exit ?_ | with_reducible refine JQ_then_exit ?_ | with_reducible refine JQ_then_ret ?_ | with_reducible refine JQ_block ?_ | with_reducible refine JQ_block_ret ?_ | with_reducible refine JQ_hit ?_ | ((with_reducible refine JQ_block_miss ?_ ?_); (focus exact rfl)) | with_reducible refine JC_ret ?_ | with_reducible refine JQ_end ?_))
  refine JC_region ?_
  refine JL_1 rfl (op_lss (Ev.rfl' rfl) (Ev.rfl' rfl)) ?_
  refine JL_nil ?_
  (repeat (first | with_reducible refine JC_seq ?_ | with_reducible refine JQ_then ?_ | with_reducible refine JC_block ?_ | with_reducible refine JC_skip ?_ | with_reducible refine JC_exit ?_ | with_reducible refine JQ_then_exit ?_ | with_reducible refine JQ_then_ret ?_ | with_reducible refine JQ_block ?_ | with_reducible refine JQ_block_ret ?_ | with_reducible refine JQ_hit ?_ | ((with_reducible refine JQ_block_miss ?_ ?_); (focus exact rfl)) | with_reducible refine JC_ret ?_ | with_reducible refine JQ_end ?_))
  refine JC_cond (Ev.rfl' rfl) (fun h => ?_) (fun h => ?_)
  · have h' : (k : Int) < 5 := of_decide_eq_true h
    clear h
    (repeat (first | with_reducible refine JC_seq ?_ | with_reducible refine JQ_then ?_ | with_reducible refine JC_block ?_ | with_reducible refine JC_skip ?_ | with_reducible refine JC_exit ?_ | with_reducible refine JQ_then_exit ?_ | with_reducible refine JQ_then_ret ?_ | with_reducible refine JQ_block ?_ | with_reducible refine JQ_block_ret ?_ | with_reducible refine JQ_hit ?_ | ((with_reducible refine JQ_block_miss ?_ ?_); (focus exact rfl)) | with_reducible refine JC_ret ?_ | with_reducible refine JQ_end ?_))
    refine JC_region ?_
    refine JL_1 rfl (op_move rfl) ?_
    refine JL_1 rfl (op_assign rfl) ?_
    refine JL_nil ?_
    (repeat (first | with_reducible refine JC_seq ?_ | with_reducible refine JQ_then ?_ | with_reducible refine JC_block ?_ | with_reducible refine JC_skip ?_ | with_reducible refine JC_exit ?_ | with_reducible refine JQ_then_exit ?_ | with_reducible refine JQ_then_ret ?_ | with_reducible refine JQ_block ?_ | with_reducible refine JQ_block_ret ?_ | with_reducible refine JQ_hit ?_ | ((with_reducible refine JQ_block_miss ?_ ?_); (focus exact rfl)) | with_reducible refine JC_ret ?_ | with_reducible refine JQ_end ?_))
    (repeat (first | with_reducible refine JC_seq ?_ | with_reducible refine JQ_then ?_ | with_reducible refine JC_block ?_ | with_reducible refine JC_skip ?_ | with_reducible refine JC_exit ?_ | with_reducible refine JQ_then_exit ?_ | with_reducible refine JQ_then_ret ?_ | with_reducible refine JQ_block ?_ | with_reducible refine JQ_block_ret ?_ | with_reducible refine JQ_hit ?_ | ((with_reducible refine JQ_block_miss ?_ ?_); (focus exact rfl)) | with_reducible refine JC_ret ?_ | with_reducible refine JQ_end ?_))
    refine JC_region ?_
    refine JL_1 rfl (op_move rfl) ?_
    refine JL_1 rfl (op_move rfl) ?_
    refine JL_1 rfl (op_mul (Ev.rfl' rfl) (Ev.rfl' rfl) (by first | exact wI64 (by omega) | exact wU64 (by omega) | exact wU32 (by omega) | rfl)) ?_
    refine JL_1 rfl (op_conv (Ev.rfl' rfl) rfl rfl (by first | with_reducible exact to_u64_64 _ | with_reducible exact to_u32_32 _ | with_reducible exact to_u8_8 _ | with_reducible exact to_u64_8 _ | with_reducible exact to_u64_32 _ | with_reducible exact to_u8_64 _ | with_reducible exact to_u32_64 _ | with_reducible exact to_i64_8 _ | with_reducible exact to_i64_32 _ | exact wI64 (by omega) | exact wU64 (by omega) | exact wU32 (by omega) | with_reducible exact to_i64_64 _ | rfl)) ?_
    refine JL_1 rfl (by first | exact op_shrU (k := 7 * k) (by first | exact Ev.rfl' rfl | exact Ev.sub rfl (SubL.eq (congrArg Is (u64lit (by first | decide | omega))))) (Ev.rfl' rfl) (by first | omega | exact UV_nonneg _) (by first | rfl | assumption | omega) | exact op_shr (Ev.rfl' rfl) (Ev.rfl' rfl) (by first | omega | exact UV_nonneg _) rfl) ?_
    refine JL_1 rfl (op_assign rfl) ?_
    refine JL_nil ?_
    (repeat (first | with_reducible refine JC_seq ?_ | with_reducible refine JQ_then ?_ | with_reducible refine JC_block ?_ | with_reducible refine JC_skip ?_ | with_reducible refine JC_exit ?_ | with_reducible refine JQ_then_exit ?_ | with_reducible refine JQ_then_ret ?_ | with_reducible refine JQ_block ?_ | with_reducible refine JQ_block_ret ?_ | with_reducible refine JQ_hit ?_ | ((with_reducible refine JQ_block_miss ?_ ?_); (focus exact rfl)) | with_reducible refine JC_ret ?_ | with_reducible refine JQ_end ?_))
    (repeat (first | with_reducible refine JC_seq ?_ | with_reducible refine JQ_then ?_ | with_reducible refine JC_block ?_ | with_reducible refine JC_skip ?_ | with_reducible refine JC_exit ?_ | with_reducible refine JQ_then_exit ?_ | with_reducible refine JQ_then_ret ?_ | with_reducible refine JQ_block ?_ | with_reducible refine JQ_block_ret ?_ | with_reducible refine JQ_hit ?_ | ((with_reducible refine JQ_block_miss ?_ ?_); (focus exact rfl)) | with_reducible refine JC_ret ?_ | with_reducible refine JQ_end ?_))
    refine JC_region ?_
    refine JL_1 rfl (op_move rfl) ?_
    refine JL_1 rfl (by first | exact op_bits (by first | exact Ev.rfl' rfl | exact Ev.sub rfl (SubL.eq (congrArg Is (u64lit (by first | decide | omega))))) (by first | exact Ev.rfl' rfl | exact Ev.sub rfl (SubL.eq (congrArg Is (u64lit (by first | decide | omega))))) (by simp) (and_u64 _ _) | exact op_bits (Ev.rfl' rfl) (Ev.rfl' rfl) (by simp) rfl) ?_
    refine JL_1 rfl (op_neq (Ev.rfl' rfl) (Ev.rfl' rfl)) ?_
    refine JL_nil ?_
    (repeat (first | with_reducible refine JC_seq ?_ | with_reducible refine JQ_then ?_ | with_reducible refine JC_block ?_ | with_reducible refine JC_skip ?_ | with_reducible refine JC_exit ?_ | with_reducible refine JQ_then_exit ?_ | with_reducible refine JQ_then_ret ?_ | with_reducible refine JQ_block ?_ | with_reducible refine JQ_block_ret ?_ | with_reducible refine JQ_hit ?_ | ((with_reducible refine JQ_block_miss ?_ ?_); (focus exact rfl)) | with_reducible refine JC_ret ?_ | with_reducible refine JQ_end ?_))
    refine JC_cond (Ev.rfl' rfl) (fun h => ?_) (fun h => ?_)
    · have hy := parse_yes x k (by rw [← UV_ne0]; exact h)
      rw [hy] at hsu
      (repeat (first | with_reducible refine JC_seq ?_ | with_reducible refine JQ_then ?_ | with_reducible refine JC_block ?_ | with_reducible refine JC_skip ?_ | with_reducible refine JC_exit ?_ | with_reducible refine JQ_then_exit ?_ | with_reducible refine JQ_then_ret ?_ | with_reducible refine JQ_block ?_ | with_reducible refine JQ_block_ret ?_ | with_reducible refine JQ_hit ?_ | ((with_reducible refine JQ_block_miss ?_ ?_); (focus exact rfl)) | with_reducible refine JC_ret ?_ | with_reducible refine JQ_end ?_))
      refine JC_region ?_
      refine JL_1 rfl (by first | exact op_fieldPtr (k := 1) (Ev.rfl' rfl) rfl rfl rfl rfl | exact op_fieldRef (k := 1) (Ev.rfl' rfl) rfl rfl rfl rfl) ?_
      refine JL_1 rfl (by first | exact op_loadRef (Ev.rfl' rfl) rfl rfl rfl | exact op_loadPtr (Ev.rfl' rfl) (by repeat (first | exact List.Mem.head _ | apply List.Mem.tail)) (by rfl) (by rfl) (by rfl)) ?_
      refine JL_1 rfl (op_move rfl) ?_
      refine JL_1 rfl (op_move rfl) ?_
      refine JL_1 rfl (by first | exact op_shrU (k := 2) (by first | exact Ev.rfl' rfl | exact Ev.sub rfl (SubL.eq (congrArg Is (u64lit (by first | decide | omega))))) (Ev.rfl' rfl) (by first | omega | exact UV_nonneg _) (by first | rfl | assumption | omega) | exact op_shr (Ev.rfl' rfl) (Ev.rfl' rfl) (by first | omega | exact UV_nonneg _) rfl) ?_
      refine JL_1 rfl (by first | exact op_bits (by first | exact Ev.rfl' rfl | exact Ev.sub rfl (SubL.eq (congrArg Is (u64lit (by first | decide | omega))))) (by first | exact Ev.rfl' rfl | exact Ev.sub rfl (SubL.eq (congrArg Is (u64lit (by first | decide | omega))))) (by simp) (and_u64 _ _) | exact op_bits (Ev.rfl' rfl) (Ev.rfl' rfl) (by simp) rfl) ?_
      refine JL_1 rfl (op_conv (Ev.rfl' rfl) rfl rfl (by first | with_reducible exact to_u64_64 _ | with_reducible exact to_u32_32 _ | with_reducible exact to_u8_8 _ | with_reducible exact to_u64_8 _ | with_reducible exact to_u64_32 _ | with_reducible exact to_u8_64 _ | with_reducible exact to_u32_64 _ | with_reducible exact to_i64_8 _ | with_reducible exact to_i64_32 _ | exact wI64 (by omega) | exact wU64 (by omega) | exact wU32 (by omega) | with_reducible exact to_i64_64 _ | rfl)) ?_
      refine JL_1 rfl (op_move rfl) ?_
      refine JL_1 rfl (by first | exact op_bits (by first | exact Ev.rfl' rfl | exact Ev.sub rfl (SubL.eq (congrArg Is (u64lit (by first | decide | omega))))) (by first | exact Ev.rfl' rfl | exact Ev.sub rfl (SubL.eq (congrArg Is (u64lit (by first | decide | omega))))) (by simp) (and_u64 _ _) | exact op_bits (Ev.rfl' rfl) (Ev.rfl' rfl) (by simp) rfl) ?_
      refine JL_1 rfl (op_neq (Ev.rfl' rfl) (Ev.rfl' rfl)) ?_
      refine JL_set 35 (Is (.bool (x >>> (7 * k) &&& 2#64 != 0#64))) rfl (SubL.eq (by rw [← UV_ne0]; rfl)) ?_
      refine JL_1 rfl (op_build (qs := [(0, _), (1, _), (2, _)]) rfl rfl rfl rfl ⟨⟨rfl, _, (Ev.rfl' rfl), (by first | exact cells_agg | exact cells_is rfl | exact cells_sl | exact cells_ref | exact cells_lit rfl)⟩, ⟨⟨rfl, _, (Ev.rfl' rfl), (by first | exact cells_agg | exact cells_is rfl | exact cells_sl | exact cells_ref | exact cells_lit rfl)⟩, ⟨⟨rfl, _, (Ev.rfl' rfl), (by first | exact cells_agg | exact cells_is rfl | exact cells_sl | exact cells_ref | exact cells_lit rfl)⟩, trivial⟩⟩⟩ (by rfl)) ?_
      refine JL_1 rfl (op_buildSlice (size := 3) (qs := [(0, _)]) rfl rfl rfl ⟨⟨rfl, _, (Ev.rfl' rfl), (by first | exact cells_agg | exact cells_is rfl | exact cells_sl | exact cells_ref | exact cells_lit rfl)⟩, trivial⟩ (by rfl) (by rfl)) ?_
      (refine JL_s rfl (op_app (Ev.rfl' rfl) (fun _ => (by repeat (first | exact Repl.head _ _ _ | apply Repl.tail))) (by first | exact Ev.rfl' rfl | exact Ev.sub rfl (by first | exact SubL.row (xs := [(⟨(k : Nat), I64 ((x >>> (7 * k)) >>> 2 &&& 31#64), x >>> (7 * k) &&& 2#64 != 0#64⟩ : Mb)]) (by rfl) (by rfl) (by (repeat' (first | exact SubL.rfl' | exact SubL.nil | exact SubL.top | exact trivial | refine SubL.agg ?_ | refine SubL.tup ?_ | exact SubL.fact (by repeat (first | exact List.Mem.head _ | apply List.Mem.tail)) | refine SubL.row (by rfl) (by rfl) ?_ | refine SubL.lit rfl ?_ | refine SubL.iteT (by first | assumption | (simp; done) | (simp_all; done)) ?_ | refine ⟨?_, ?_⟩))) | (repeat' (first | exact SubL.rfl' | exact SubL.nil | exact SubL.top | exact trivial | refine SubL.agg ?_ | refine SubL.tup ?_ | exact SubL.fact (by repeat (first | exact List.Mem.head _ | apply List.Mem.tail)) | refine SubL.row (by rfl) (by rfl) ?_ | refine SubL.lit rfl ?_ | refine SubL.iteT (by first | assumption | (simp; done) | (simp_all; done)) ?_ | refine ⟨?_, ?_⟩)))) (by exact appT rfl rfl rfl) (by first | omega | (simp; omega))) ?_; intro i38)
      refine JL_1 rfl (by first | exact op_fieldPtr (k := 1) (Ev.rfl' rfl) rfl rfl rfl rfl | exact op_fieldRef (k := 1) (Ev.rfl' rfl) rfl rfl rfl rfl) ?_
      refine JL_s0 (op_store (Ev.rfl' rfl) (Ev.rfl' rfl) (by first | exact cells_agg | exact cells_is rfl | exact cells_sl | exact cells_ref | exact cells_lit rfl) (by repeat (first | exact Repl.head _ _ _ | apply Repl.tail)) (by rfl) (by rfl) (by rfl)) ?_
      refine JL_nil ?_
      (repeat (first | with_reducible refine JC_seq ?_ | with_reducible refine JQ_then ?_ | with_reducible refine JC_block ?_ | with_reducible refine JC_skip ?_ | with_reducible refine JC_exit ?_ | with_reducible refine JQ_then_exit ?_ | with_reducible refine JQ_then_ret ?_ | with_reducible refine JQ_block ?_ | with_reducible refine JQ_block_ret ?_ | with_reducible refine JQ_hit ?_ | ((with_reducible refine JQ_block_miss ?_ ?_); (focus exact rfl)) | with_reducible refine JC_ret ?_ | with_reducible refine JQ_end ?_))
      rw [← hsu]
      (repeat (first | with_reducible refine JC_seq ?_ | with_reducible refine JQ_then ?_ | with_reducible refine JC_block ?_ | with_reducible refine JC_skip ?_ | with_reducible refine JC_exit ?_ | with_reducible refine JQ_then_exit ?_ | with_reducible refine JQ_then_ret ?_ | with_reducible refine JQ_block ?_ | with_reducible refine JQ_block_ret ?_ | with_reducible refine JQ_hit ?_ | ((with_reducible refine JQ_block_miss ?_ ?_); (focus exact rfl)) | with_reducible refine JC_ret ?_ | with_reducible refine JQ_end ?_))
      refine JC_region ?_
      refine JL_1 rfl (op_add (Ev.rfl' rfl) (Ev.rfl' rfl) (by first | exact wI64 (by omega) | exact wU64 (by omega) | exact wU32 (by omega) | rfl)) ?_
      refine JL_1 rfl (op_move rfl) ?_
      refine JL_nil ?_
      (repeat (first | with_reducible refine JC_seq ?_ | with_reducible refine JQ_then ?_ | with_reducible refine JC_block ?_ | with_reducible refine JC_skip ?_ | with_reducible refine JC_exit ?_ | with_reducible refine JQ_then_exit ?_ | with_reducible refine JQ_then_ret ?_ | with_reducible refine JQ_block ?_ | with_reducible refine JQ_block_ret ?_ | with_reducible refine JQ_hit ?_ | ((with_reducible refine JQ_block_miss ?_ ?_); (focus exact rfl)) | with_reducible refine JC_ret ?_ | with_reducible refine JQ_end ?_))
      exact JQ_round (k + 1, i38) (by dsimp only; omega) (by dsimp only; omega) (by (repeat (refine ⟨⟨_, rfl, (by (repeat' (first | exact SubL.rfl' | exact SubL.nil | exact SubL.top | exact trivial | refine SubL.agg ?_ | refine SubL.tup ?_ | exact SubL.fact (by repeat (first | exact List.Mem.head _ | apply List.Mem.tail)) | refine SubL.row (by rfl) (by rfl) ?_ | refine SubL.lit rfl ?_ | refine SubL.iteT (by first | assumption | (simp; done) | (simp_all; done)) ?_ | refine ⟨?_, ?_⟩)))⟩, ?_⟩)); exact trivial) (List.Sublist.refl _)
    · have hy := parse_no x k (by rw [← UV_ne0]; exact h)
      rw [hy, List.append_nil] at hsu
      rw [← hsu]
      (repeat (first | with_reducible refine JC_seq ?_ | with_reducible refine JQ_then ?_ | with_reducible refine JC_block ?_ | with_reducible refine JC_skip ?_ | with_reducible refine JC_exit ?_ | with_reducible refine JQ_then_exit ?_ | with_reducible refine JQ_then_ret ?_ | with_reducible refine JQ_block ?_ | with_reducible refine JQ_block_ret ?_ | with_reducible refine JQ_hit ?_ | ((with_reducible refine JQ_block_miss ?_ ?_); (focus exact rfl)) | with_reducible refine JC_ret ?_ | with_reducible refine JQ_end ?_))
      (repeat (first | with_reducible refine JC_seq ?_ | with_reducible refine JQ_then ?_ | with_reducible refine JC_block ?_ | with_reducible refine JC_skip ?_ | with_reducible refine JC_exit ?_ | with_reducible refine JQ_then_exit ?_ | with_reducible refine JQ_then_ret ?_ | with_reducible refine JQ_block ?_ | with_reducible refine JQ_block_ret ?_ | with_reducible refine JQ_hit ?_ | ((with_reducible refine JQ_block_miss ?_ ?_); (focus exact rfl)) | with_reducible refine JC_ret ?_ | with_reducible refine JQ_end ?_))
      refine JC_region ?_
      refine JL_1 rfl (op_add (Ev.rfl' rfl) (Ev.rfl' rfl) (by first | exact wI64 (by omega) | exact wU64 (by omega) | exact wU32 (by omega) | rfl)) ?_
      refine JL_1 rfl (op_move rfl) ?_
      refine JL_nil ?_
      (repeat (first | with_reducible refine JC_seq ?_ | with_reducible refine JQ_then ?_ | with_reducible refine JC_block ?_ | with_reducible refine JC_skip ?_ | with_reducible refine JC_exit ?_ | with_reducible refine JQ_then_exit ?_ | with_reducible refine JQ_then_ret ?_ | with_reducible refine JQ_block ?_ | with_reducible refine JQ_block_ret ?_ | with_reducible refine JQ_hit ?_ | ((with_reducible refine JQ_block_miss ?_ ?_); (focus exact rfl)) | with_reducible refine JC_ret ?_ | with_reducible refine JQ_end ?_))
      exact JQ_round (k + 1, s) (by dsimp only; omega) (by dsimp only; omega) (by (repeat (refine ⟨⟨_, rfl, (by (repeat' (first | exact SubL.rfl' | exact SubL.nil | exact SubL.top | exact trivial | refine SubL.agg ?_ | refine SubL.tup ?_ | exact SubL.fact (by repeat (first | exact List.Mem.head _ | apply List.Mem.tail)) | refine SubL.row (by rfl) (by rfl) ?_ | refine SubL.lit rfl ?_ | refine SubL.iteT (by first | assumption | (simp; done) | (simp_all; done)) ?_ | refine ⟨?_, ?_⟩)))⟩, ?_⟩)); exact trivial) (List.Sublist.refl _)
  have hk5 : k = 5 := by have := of_decide_eq_false h; omega
  subst hk5
  clear h hsu
  refine JC_freeze hX (by repeat (first | exact Repl.head _ _ _ | apply Repl.tail)) ?_
  (repeat (first | with_reducible refine JC_seq ?_ | with_reducible refine JQ_then ?_ | with_reducible refine JC_block ?_ | with_reducible refine JC_skip ?_ | with_reducible refine JC_exit ?_ | with_reducible refine JQ_then_exit ?_ | with_reducible refine JQ_then_ret ?_ | with_reducible refine JQ_block ?_ | with_reducible refine JQ_block_ret ?_ | with_reducible refine JQ_hit ?_ | ((with_reducible refine JQ_block_miss ?_ ?_); (focus exact rfl)) | with_reducible refine JC_ret ?_ | with_reducible refine JQ_end ?_))
  refine JC_region ?_
  refine JL_1 rfl (by first | exact op_loadRefs (n := 2) (Ev.rfl' rfl) rfl rfl rfl (by rfl) | exact op_loadPtrs (n := 2) (Ev.rfl' rfl) (by repeat (first | exact List.Mem.head _ | apply List.Mem.tail)) (by rfl) (by rfl) (by rfl) (by rfl)) ?_
  refine JL_1 rfl (op_call Try.call11 (Value_ok _ _) ⟨(by first | exact Ev.rfl' rfl | exact Ev.sub rfl (by (repeat' (first | exact SubL.rfl' | exact SubL.nil | exact SubL.top | exact trivial | refine SubL.agg ?_ | refine SubL.tup ?_ | exact SubL.fact (by repeat (first | exact List.Mem.head _ | apply List.Mem.tail)) | refine SubL.row (by rfl) (by rfl) ?_ | refine SubL.lit rfl ?_ | refine SubL.iteT (by first | assumption | (simp; done) | (simp_all; done)) ?_ | refine ⟨?_, ?_⟩)))), trivial⟩) ?_
  refine JL_1 rfl (op_move rfl) ?_
  refine JL_1 rfl (op_extract (Ev.rfl' rfl) rfl) ?_
  refine JL_1 rfl (op_extract (Ev.rfl' rfl) rfl) ?_
  refine JL_1 rfl (op_assign rfl) ?_
  refine JL_1 rfl (op_assign rfl) ?_
  refine JL_nil ?_
  (repeat (first | with_reducible refine JC_seq ?_ | with_reducible refine JQ_then ?_ | with_reducible refine JC_block ?_ | with_reducible refine JC_skip ?_ | with_reducible refine JC_exit ?_ | with_reducible refine JQ_then_exit ?_ | with_reducible refine JQ_then_ret ?_ | with_reducible refine JQ_block ?_ | with_reducible refine JQ_block_ret ?_ | with_reducible refine JQ_hit ?_ | ((with_reducible refine JQ_block_miss ?_ ?_); (focus exact rfl)) | with_reducible refine JC_ret ?_ | with_reducible refine JQ_end ?_))
  (repeat (first | with_reducible refine JC_seq ?_ | with_reducible refine JQ_then ?_ | with_reducible refine JC_block ?_ | with_reducible refine JC_skip ?_ | with_reducible refine JC_exit ?_ | with_reducible refine JQ_then_exit ?_ | with_reducible refine JQ_then_ret ?_ | with_reducible refine JQ_block ?_ | with_reducible refine JQ_block_ret ?_ | with_reducible refine JQ_hit ?_ | ((with_reducible refine JQ_block_miss ?_ ?_); (focus exact rfl)) | with_reducible refine JC_ret ?_ | with_reducible refine JQ_end ?_))
  refine JC_region ?_
  refine JL_1 rfl (op_move rfl) ?_
  refine JL_1 rfl (op_neq (Ev.rfl' rfl) (Ev.rfl' rfl)) ?_
  refine JL_1 rfl (op_move rfl) ?_
  (first | refine JL_i0 rfl rfl rfl (fun hg => (by (try simp at hg); first | exact op_moveE (Ev.sub rfl (SubL.iteT (by first | assumption | (simp; done) | (simp_all; done)) SubL.rfl')) | exact op_moveE (Ev.rfl' rfl))) ?_ | refine JL_i rfl rfl rfl (fun hp hg => (by (try simp at hg); first | exact op_moveE (Ev.sub rfl (SubL.iteT (by first | assumption | (simp; done) | (simp_all; done)) SubL.rfl')) | exact op_moveE (Ev.rfl' rfl))) ?_)
  (first | refine JL_i0 rfl rfl rfl (fun hg => (by (try simp at hg); first | exact op_moveE (Ev.sub rfl (SubL.iteT (by first | assumption | (simp; done) | (simp_all; done)) SubL.rfl')) | exact op_moveE (Ev.rfl' rfl))) ?_ | refine JL_i rfl rfl rfl (fun hp hg => (by (try simp at hg); first | exact op_moveE (Ev.sub rfl (SubL.iteT (by first | assumption | (simp; done) | (simp_all; done)) SubL.rfl')) | exact op_moveE (Ev.rfl' rfl))) ?_)
  (first | refine JL_i0 rfl rfl rfl (fun hg => (by (try simp at hg); exact op_neq (by first | exact Ev.rfl' rfl | exact Ev.sub rfl (SubL.iteT (by first | assumption | (simp; done) | (simp_all; done)) SubL.rfl')) (by first | exact Ev.rfl' rfl | exact Ev.sub rfl (SubL.iteT (by first | assumption | (simp; done) | (simp_all; done)) SubL.rfl')))) ?_ | refine JL_i rfl rfl rfl (fun hp hg => (by (try simp at hg); exact op_neq (by first | exact Ev.rfl' rfl | exact Ev.sub rfl (SubL.iteT (by first | assumption | (simp; done) | (simp_all; done)) SubL.rfl')) (by first | exact Ev.rfl' rfl | exact Ev.sub rfl (SubL.iteT (by first | assumption | (simp; done) | (simp_all; done)) SubL.rfl')))) ?_)
  refine JL_1 rfl (op_or (Ev.rfl' rfl) rfl (fun h => by first | exact SubL.rfl' | exact SubL.iteT (by first | (rw [h]; rfl) | (simp_all; done)) SubL.rfl')) ?_
  refine JL_1 rfl (op_move rfl) ?_
  (first | refine JL_i0 rfl rfl rfl (fun hg => (by (try simp at hg); first | exact op_loadRefs (n := 2) (by first | exact Ev.rfl' rfl | exact Ev.sub rfl (SubL.iteT (by first | assumption | (simp; done) | (simp_all; done)) SubL.rfl')) rfl rfl rfl (by rfl) | exact op_loadPtrs (n := 2) (by first | exact Ev.rfl' rfl | exact Ev.sub rfl (SubL.iteT (by first | assumption | (simp; done) | (simp_all; done)) SubL.rfl')) (by repeat (first | exact List.Mem.head _ | apply List.Mem.tail)) (by rfl) (by rfl) (by rfl) (by rfl))) ?_ | refine JL_i rfl rfl rfl (fun hp hg => (by (try simp at hg); first | exact op_loadRefs (n := 2) (by first | exact Ev.rfl' rfl | exact Ev.sub rfl (SubL.iteT (by first | assumption | (simp; done) | (simp_all; done)) SubL.rfl')) rfl rfl rfl (by rfl) | exact op_loadPtrs (n := 2) (by first | exact Ev.rfl' rfl | exact Ev.sub rfl (SubL.iteT (by first | assumption | (simp; done) | (simp_all; done)) SubL.rfl')) (by repeat (first | exact List.Mem.head _ | apply List.Mem.tail)) (by rfl) (by rfl) (by rfl) (by rfl))) ?_)
  (first | refine JL_i0 rfl rfl rfl (fun hg => (by (try simp at hg); first | exact op_moveE (Ev.sub rfl (SubL.iteT (by first | assumption | (simp; done) | (simp_all; done)) SubL.rfl')) | exact op_moveE (Ev.rfl' rfl))) ?_ | refine JL_i rfl rfl rfl (fun hp hg => (by (try simp at hg); first | exact op_moveE (Ev.sub rfl (SubL.iteT (by first | assumption | (simp; done) | (simp_all; done)) SubL.rfl')) | exact op_moveE (Ev.rfl' rfl))) ?_)
  (first | refine JL_i0 rfl rfl rfl (fun hg => (by (try simp at hg); exact op_call Try.call19 (Valid_ok _ _ _) ⟨(by first | exact Ev.rfl' rfl | exact Ev.sub rfl (by (repeat' (first | exact SubL.rfl' | exact SubL.nil | exact SubL.top | exact trivial | refine SubL.agg ?_ | refine SubL.tup ?_ | exact SubL.fact (by repeat (first | exact List.Mem.head _ | apply List.Mem.tail)) | refine SubL.row (by rfl) (by rfl) ?_ | refine SubL.lit rfl ?_ | refine SubL.iteT (by first | assumption | (simp; done) | (simp_all; done)) ?_ | refine ⟨?_, ?_⟩)))), ⟨(by first | exact Ev.rfl' rfl | exact Ev.sub rfl (by (repeat' (first | exact SubL.rfl' | exact SubL.nil | exact SubL.top | exact trivial | refine SubL.agg ?_ | refine SubL.tup ?_ | exact SubL.fact (by repeat (first | exact List.Mem.head _ | apply List.Mem.tail)) | refine SubL.row (by rfl) (by rfl) ?_ | refine SubL.lit rfl ?_ | refine SubL.iteT (by first | assumption | (simp; done) | (simp_all; done)) ?_ | refine ⟨?_, ?_⟩)))), trivial⟩⟩)) ?_ | refine JL_i rfl rfl rfl (fun hp hg => (by (try simp at hg); exact op_call Try.call19 (Valid_ok _ _ _) ⟨(by first | exact Ev.rfl' rfl | exact Ev.sub rfl (by (repeat' (first | exact SubL.rfl' | exact SubL.nil | exact SubL.top | exact trivial | refine SubL.agg ?_ | refine SubL.tup ?_ | exact SubL.fact (by repeat (first | exact List.Mem.head _ | apply List.Mem.tail)) | refine SubL.row (by rfl) (by rfl) ?_ | refine SubL.lit rfl ?_ | refine SubL.iteT (by first | assumption | (simp; done) | (simp_all; done)) ?_ | refine ⟨?_, ?_⟩)))), ⟨(by first | exact Ev.rfl' rfl | exact Ev.sub rfl (by (repeat' (first | exact SubL.rfl' | exact SubL.nil | exact SubL.top | exact trivial | refine SubL.agg ?_ | refine SubL.tup ?_ | exact SubL.fact (by repeat (first | exact List.Mem.head _ | apply List.Mem.tail)) | refine SubL.row (by rfl) (by rfl) ?_ | refine SubL.lit rfl ?_ | refine SubL.iteT (by first | assumption | (simp; done) | (simp_all; done)) ?_ | refine ⟨?_, ?_⟩)))), trivial⟩⟩)) ?_)
  (first | refine JL_i0 rfl rfl rfl (fun hg => (by (try simp at hg); exact op_neq (by first | exact Ev.rfl' rfl | exact Ev.sub rfl (SubL.iteT (by first | assumption | (simp; done) | (simp_all; done)) SubL.rfl')) (by first | exact Ev.rfl' rfl | exact Ev.sub rfl (SubL.iteT (by first | assumption | (simp; done) | (simp_all; done)) SubL.rfl')))) ?_ | refine JL_i rfl rfl rfl (fun hp hg => (by (try simp at hg); exact op_neq (by first | exact Ev.rfl' rfl | exact Ev.sub rfl (SubL.iteT (by first | assumption | (simp; done) | (simp_all; done)) SubL.rfl')) (by first | exact Ev.rfl' rfl | exact Ev.sub rfl (SubL.iteT (by first | assumption | (simp; done) | (simp_all; done)) SubL.rfl')))) ?_)
  refine JL_1 rfl (op_or (Ev.rfl' rfl) rfl (fun h => by first | exact SubL.rfl' | exact SubL.iteT (by first | (rw [h]; rfl) | (simp_all; done)) SubL.rfl')) ?_
  refine JL_nil ?_
  (repeat (first | with_reducible refine JC_seq ?_ | with_reducible refine JQ_then ?_ | with_reducible refine JC_block ?_ | with_reducible refine JC_skip ?_ | with_reducible refine JC_exit ?_ | with_reducible refine JQ_then_exit ?_ | with_reducible refine JQ_then_ret ?_ | with_reducible refine JQ_block ?_ | with_reducible refine JQ_block_ret ?_ | with_reducible refine JQ_hit ?_ | ((with_reducible refine JQ_block_miss ?_ ?_); (focus exact rfl)) | with_reducible refine JC_ret ?_ | with_reducible refine JQ_end ?_))
  refine JC_cond (Ev.rfl' rfl) (fun h => ?_) (fun h => ?_)
  · have e : parseV num x nodes = (0, [], 14) := by
      by_cases g1 : validV num (parseL x 5) nodes = 0
      · by_cases g2 : wordV (parseL x 5) = x
        · exfalso
          rw [valueV_ok (valid_mono g1), g2, g1] at h
          simp at h
        · exact parseV_word g2
      · exact parseV_bad g1
    rw [e]
    (repeat (first | with_reducible refine JC_seq ?_ | with_reducible refine JQ_then ?_ | with_reducible refine JC_block ?_ | with_reducible refine JC_skip ?_ | with_reducible refine JC_exit ?_ | with_reducible refine JQ_then_exit ?_ | with_reducible refine JQ_then_ret ?_ | with_reducible refine JQ_block ?_ | with_reducible refine JQ_block_ret ?_ | with_reducible refine JQ_hit ?_ | ((with_reducible refine JQ_block_miss ?_ ?_); (focus exact rfl)) | with_reducible refine JC_ret ?_ | with_reducible refine JQ_end ?_))
    refine JC_region ?_
    refine JL_1 rfl (op_build (qs := []) rfl rfl rfl rfl trivial (by rfl)) ?_
    refine JL_s0 (op_store (Ev.rfl' rfl) (Ev.rfl' rfl) (by first | exact cells_agg | exact cells_is rfl | exact cells_sl | exact cells_ref | exact cells_lit rfl) (by repeat (first | exact Repl.head _ _ _ | apply Repl.tail)) (by rfl) (by rfl) (by rfl)) ?_
    refine JL_1 rfl (op_assign rfl) ?_
    refine JL_nil ?_
    (repeat (first | with_reducible refine JC_seq ?_ | with_reducible refine JQ_then ?_ | with_reducible refine JC_block ?_ | with_reducible refine JC_skip ?_ | with_reducible refine JC_exit ?_ | with_reducible refine JQ_then_exit ?_ | with_reducible refine JQ_then_ret ?_ | with_reducible refine JQ_block ?_ | with_reducible refine JQ_block_ret ?_ | with_reducible refine JQ_hit ?_ | ((with_reducible refine JQ_block_miss ?_ ?_); (focus exact rfl)) | with_reducible refine JC_ret ?_ | with_reducible refine JQ_end ?_))
    exact JQ_ret (Bs := [IsView 0 [], Is (.int .i64 14)]) Try.results14 ⟨⟨_, _, _, _, rfl, (by repeat (first | exact List.Mem.head _ | apply List.Mem.tail)), rfl, .inr ⟨rfl, _, rfl, rfl, (by (repeat' (first | exact SubL.rfl' | exact SubL.nil | exact SubL.top | exact trivial | refine SubL.agg ?_ | refine SubL.tup ?_ | exact SubL.fact (by repeat (first | exact List.Mem.head _ | apply List.Mem.tail)) | refine SubL.row (by rfl) (by rfl) ?_ | refine SubL.lit rfl ?_ | refine SubL.iteT (by first | assumption | (simp; done) | (simp_all; done)) ?_ | refine ⟨?_, ?_⟩)))⟩⟩, ⟨⟨_, rfl, (by (repeat' (first | exact SubL.rfl' | exact SubL.nil | exact SubL.top | exact trivial | refine SubL.agg ?_ | refine SubL.tup ?_ | exact SubL.fact (by repeat (first | exact List.Mem.head _ | apply List.Mem.tail)) | refine SubL.row (by rfl) (by rfl) ?_ | refine SubL.lit rfl ?_ | refine SubL.iteT (by first | assumption | (simp; done) | (simp_all; done)) ?_ | refine ⟨?_, ?_⟩)))⟩, trivial⟩⟩ () SubL.rfl' (List.nil_sublist _)
  · have e : parseV num x nodes = (num, parseL x 5, 0) := by
      simp at h
      obtain ⟨h1, h3⟩ := h
      obtain ⟨h1, h2⟩ := h1
      refine parseV_ok h3 ?_
      by_cases g1 : validV num (parseL x 5) 5 = 0
      · rw [valueV_ok g1] at h2
        simpa [UV_inj] using h2
      · rw [valueV_bad g1] at h1
        exact absurd h1 g1
    rw [e]
    (repeat (first | with_reducible refine JC_seq ?_ | with_reducible refine JQ_then ?_ | with_reducible refine JC_block ?_ | with_reducible refine JC_skip ?_ | with_reducible refine JC_exit ?_ | with_reducible refine JQ_then_exit ?_ | with_reducible refine JQ_then_ret ?_ | with_reducible refine JQ_block ?_ | with_reducible refine JQ_block_ret ?_ | with_reducible refine JQ_hit ?_ | ((with_reducible refine JQ_block_miss ?_ ?_); (focus exact rfl)) | with_reducible refine JC_ret ?_ | with_reducible refine JQ_end ?_))
    refine JC_region ?_
    refine JL_1 rfl (by first | exact op_loadRefs (n := 2) (Ev.rfl' rfl) rfl rfl rfl (by rfl) | exact op_loadPtrs (n := 2) (Ev.rfl' rfl) (by repeat (first | exact List.Mem.head _ | apply List.Mem.tail)) (by rfl) (by rfl) (by rfl) (by rfl)) ?_
    refine JL_s0 (op_store (Ev.rfl' rfl) (Ev.rfl' rfl) (by first | exact cells_agg | exact cells_is rfl | exact cells_sl | exact cells_ref | exact cells_lit rfl) (by repeat (first | exact Repl.head _ _ _ | apply Repl.tail)) (by rfl) (by rfl) (by rfl)) ?_
    refine JL_1 rfl (op_assign rfl) ?_
    refine JL_nil ?_
    (repeat (first | with_reducible refine JC_seq ?_ | with_reducible refine JQ_then ?_ | with_reducible refine JC_block ?_ | with_reducible refine JC_skip ?_ | with_reducible refine JC_exit ?_ | with_reducible refine JQ_then_exit ?_ | with_reducible refine JQ_then_ret ?_ | with_reducible refine JQ_block ?_ | with_reducible refine JQ_block_ret ?_ | with_reducible refine JQ_hit ?_ | ((with_reducible refine JQ_block_miss ?_ ?_); (focus exact rfl)) | with_reducible refine JC_ret ?_ | with_reducible refine JQ_end ?_))
    exact JQ_ret (Bs := [IsView num (parseL x 5), Is (.int .i64 0)]) Try.results14 ⟨⟨_, _, _, _, rfl, (by repeat (first | exact List.Mem.head _ | apply List.Mem.tail)), rfl, .inr ⟨rfl, _, rfl, rfl, (by (repeat' (first | exact SubL.rfl' | exact SubL.nil | exact SubL.top | exact trivial | refine SubL.agg ?_ | refine SubL.tup ?_ | exact SubL.fact (by repeat (first | exact List.Mem.head _ | apply List.Mem.tail)) | refine SubL.row (by rfl) (by rfl) ?_ | refine SubL.lit rfl ?_ | refine SubL.iteT (by first | assumption | (simp; done) | (simp_all; done)) ?_ | refine ⟨?_, ?_⟩)))⟩⟩, ⟨⟨_, rfl, (by (repeat' (first | exact SubL.rfl' | exact SubL.nil | exact SubL.top | exact trivial | refine SubL.agg ?_ | refine SubL.tup ?_ | exact SubL.fact (by repeat (first | exact List.Mem.head _ | apply List.Mem.tail)) | refine SubL.row (by rfl) (by rfl) ?_ | refine SubL.lit rfl ?_ | refine SubL.iteT (by first | assumption | (simp; done) | (simp_all; done)) ?_ | refine ⟨?_, ?_⟩)))⟩, trivial⟩⟩ () SubL.rfl' (List.nil_sublist _)
end Go.Proofs.Ythppeaelfcmafaa
