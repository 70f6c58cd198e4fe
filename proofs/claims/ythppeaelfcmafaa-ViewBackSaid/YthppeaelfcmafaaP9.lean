/- Contracts: the value of a view. Own work. -/
import Derived.Test.YthppeaelfcmafaaP8
namespace Go.Proofs.Ythppeaelfcmafaa
open Go.RowKit
set_option linter.unusedVariables false
set_option maxRecDepth 100000
theorem validV_zero {num nodes : Int} {ms : List Mb} (h : validV num ms nodes = 0) : (1 ≤ nodes ∧ nodes ≤ 5) ∧ (0 ≤ num ∧ num < 16) ∧ ms.length ≠ 0 ∧ (∀ k, k < ms.length → AscM nodes ms k) ∧ (∀ k, k < ms.length → BootM ms k) ∧ ms.any Mb.f = true := by
  unfold validV at h
  by_cases h1 : 1 ≤ nodes ∧ nodes ≤ 5
  case neg => rw [if_pos h1] at h; omega
  rw [if_neg (not_not_intro h1)] at h
  by_cases h2 : 0 ≤ num ∧ num < 16
  case neg => rw [if_pos h2] at h; omega
  rw [if_neg (not_not_intro h2)] at h
  by_cases h3 : ms.length = 0
  case pos => rw [if_pos h3] at h; omega
  rw [if_neg h3] at h
  by_cases h4 : ∀ k, k < ms.length → AscM nodes ms k
  case neg => rw [if_pos h4] at h; omega
  rw [if_neg (not_not_intro h4)] at h
  by_cases h5 : ∀ k, k < ms.length → BootM ms k
  case neg => rw [if_pos h5] at h; omega
  rw [if_neg (not_not_intro h5)] at h
  cases h6 : ms.any Mb.f
  case false => rw [h6] at h; simp at h
  exact ⟨h1, h2, h3, h4, h5, rfl⟩
def bitsM (m : Mb) : BitVec 64 := if m.f then (1#64 ||| BitVec.ofInt 64 m.b <<< 2) ||| 2#64 else 1#64 ||| BitVec.ofInt 64 m.b <<< 2
def stepV (x : BitVec 64) (m : Mb) : BitVec 64 := x ||| bitsM m <<< (7 * m.n).toNat
def wordV (ms : List Mb) : BitVec 64 := ms.foldl stepV 549755813888#64
/-- The value of a view, and why it has none. -/
def valueV (num : Int) (ms : List Mb) : BitVec 64 × Int := if validV num ms 5 = 0 then (wordV ms, 0) else (0#64, validV num ms 5)
theorem valueV_bad {num : Int} {ms : List Mb} (h : validV num ms 5 ≠ 0) : valueV num ms = (0#64, validV num ms 5) := by unfold valueV; rw [if_neg h]
theorem valueV_ok {num : Int} {ms : List Mb} (h : validV num ms 5 = 0) : valueV num ms = (wordV ms, 0) := by unfold valueV; rw [if_pos h]
theorem take_foldl {α : Type} (f : α → Mb → α) (z : α) (ms : List Mb) (k : Nat) (hk : k < ms.length) : (ms.take (k + 1)).foldl f z = f ((ms.take k).foldl f z) (Mb.at ms k) := by
  rw [List.take_add_one, Mb.at_get ms k hk, Option.toList_some, List.foldl_append]; rfl
theorem value1 : valueV 0 [⟨0, 1, true⟩] = (549755813895#64, 0) := by decide
theorem vbits_fin : ∀ b : Fin 32, IntKind.u64.wrap (IntKind.i64.wrap ((BitVec.ofInt 64 (IntKind.i64.wrap ((b.val : Int) * 4)) ||| BitVec.ofInt 64 1).toNat : Int)) = UV (1#64 ||| BitVec.ofInt 64 (b.val : Int) <<< 2) := by decide +kernel
theorem vbits (b : Int) (h0 : 1 ≤ b) (h1 : b ≤ 31) : Value.int .u64 (IntKind.u64.wrap (IntKind.i64.wrap ((BitVec.ofInt 64 (IntKind.i64.wrap (b * 2 ^ (min (Int.toNat 2) 64))) ||| BitVec.ofInt 64 1).toNat : Int))) = .int .u64 (UV (1#64 ||| BitVec.ofInt 64 b <<< 2)) := by
  obtain ⟨n, rfl⟩ := Int.eq_ofNat_of_zero_le (show 0 ≤ b by omega)
  have := vbits_fin ⟨n, by omega⟩
  rw [← this]
  rfl
set_option maxHeartbeats 2000000 in
-- view.Value: function 11
theorem Value_ok (num : Int) (ms : List Mb) : FnP Try.prog 11 [IsView num ms] (IsTup [Is (.int .u64 (UV (valueV num ms).1)), Is (.int .i64 (valueV num ms).2)]) := by
  refine FnP.enter Try.func11 Try.ntmps11 rfl rfl ?_
  intro c hX
  (repeat (first | with_reducible refine JC_seq ?_ | with_reducible refine JQ_then ?_ | with_reducible refine JC_block ?_ | with_reducible refine JC_skip ?_ | with_reducible refine JC_exit ?_ | with_reducible refine JQ_then_exit ?_ | with_reducible refine JQ_then_ret ?_ | with_reducible refine JQ_block ?_ | with_reducible refine JQ_block_ret ?_ | with_reducible refine JQ_hit ?_ | ((with_reducible refine JQ_block_miss ?_ ?_); (focus exact rfl)) | with_reducible refine JC_ret ?_ | with_reducible refine JQ_end ?_))
  refine JC_lenV (t := 0) 1 rfl rfl (fun hlen => ?_)
  (repeat (first | with_reducible refine JC_seq ?_ | with_reducible refine JQ_then ?_ | with_reducible refine JC_block ?_ | with_reducible refine JC_skip ?_ | with_reducible refine JC_exit ?_ | with_reducible refine JQ_then_exit ?_ | with_reducible refine JQ_then_ret ?_ | with_reducible refine JQ_block ?_ | with_reducible refine JQ_block_ret ?_ | with_reducible refine JQ_hit ?_ | ((with_reducible refine JQ_block_miss ?_ ?_); (focus exact rfl)) | with_reducible refine JC_ret ?_ | with_reducible refine JQ_end ?_))
  refine JC_region ?_
  (refine JL_n rfl (op_box (Ev.rfl' rfl) (by first | exact cells_agg | exact cells_is rfl | exact cells_sl | exact cells_ref | exact cells_lit rfl)) ?_; intro i1)
  refine JL_1 rfl (op_assign rfl) ?_
  refine JL_1 rfl (op_assign rfl) ?_
  refine JL_nil ?_
  (repeat (first | with_reducible refine JC_seq ?_ | with_reducible refine JQ_then ?_ | with_reducible refine JC_block ?_ | with_reducible refine JC_skip ?_ | with_reducible refine JC_exit ?_ | with_reducible refine JQ_then_exit ?_ | with_reducible refine JQ_then_ret ?_ | with_reducible refine JQ_block ?_ | with_reducible refine JQ_block_ret ?_ | with_reducible refine JQ_hit ?_ | ((with_reducible refine JQ_block_miss ?_ ?_); (focus exact rfl)) | with_reducible refine JC_ret ?_ | with_reducible refine JQ_end ?_))
  (repeat (first | with_reducible refine JC_seq ?_ | with_reducible refine JQ_then ?_ | with_reducible refine JC_block ?_ | with_reducible refine JC_skip ?_ | with_reducible refine JC_exit ?_ | with_reducible refine JQ_then_exit ?_ | with_reducible refine JQ_then_ret ?_ | with_reducible refine JQ_block ?_ | with_reducible refine JQ_block_ret ?_ | with_reducible refine JQ_hit ?_ | ((with_reducible refine JQ_block_miss ?_ ?_); (focus exact rfl)) | with_reducible refine JC_ret ?_ | with_reducible refine JQ_end ?_))
  refine JC_region ?_
  refine JL_1 rfl (by first | exact op_loadRefs (n := 2) (Ev.rfl' rfl) rfl rfl rfl (by rfl) | exact op_loadPtrs (n := 2) (Ev.rfl' rfl) (by repeat (first | exact List.Mem.head _ | apply List.Mem.tail)) (by rfl) (by rfl) (by rfl) (by rfl)) ?_
  refine JL_1 rfl (op_call Try.call19 (Valid_ok _ _ _) ⟨(by first | exact Ev.rfl' rfl | exact Ev.sub rfl (by (repeat' (first | exact SubL.rfl' | exact SubL.nil | exact SubL.top | exact trivial | refine SubL.agg ?_ | refine SubL.tup ?_ | exact SubL.fact (by repeat (first | exact List.Mem.head _ | apply List.Mem.tail)) | refine SubL.row (by rfl) (by rfl) ?_ | refine SubL.lit rfl ?_ | refine SubL.iteT (by first | assumption | (simp; done) | (simp_all; done)) ?_ | refine ⟨?_, ?_⟩)))), ⟨(by first | exact Ev.rfl' rfl | exact Ev.sub rfl (by (repeat' (first | exact SubL.rfl' | exact SubL.nil | exact SubL.top | exact trivial | refine SubL.agg ?_ | refine SubL.tup ?_ | exact SubL.fact (by repeat (first | exact List.Mem.head _ | apply List.Mem.tail)) | refine SubL.row (by rfl) (by rfl) ?_ | refine SubL.lit rfl ?_ | refine SubL.iteT (by first | assumption | (simp; done) | (simp_all; done)) ?_ | refine ⟨?_, ?_⟩)))), trivial⟩⟩) ?_
  refine JL_1 rfl (op_assign rfl) ?_
  refine JL_nil ?_
  (repeat (first | with_reducible refine JC_seq ?_ | with_reducible refine JQ_then ?_ | with_reducible refine JC_block ?_ | with_reducible refine JC_skip ?_ | with_reducible refine JC_exit ?_ | with_reducible refine JQ_then_exit ?_ | with_reducible refine JQ_then_ret ?_ | with_reducible refine JQ_block ?_ | with_reducible refine JQ_block_ret ?_ | with_reducible refine JQ_hit ?_ | ((with_reducible refine JQ_block_miss ?_ ?_); (focus exact rfl)) | with_reducible refine JC_ret ?_ | with_reducible refine JQ_end ?_))
  (repeat (first | with_reducible refine JC_seq ?_ | with_reducible refine JQ_then ?_ | with_reducible refine JC_block ?_ | with_reducible refine JC_skip ?_ | with_reducible refine JC_exit ?_ | with_reducible refine JQ_then_exit ?_ | with_reducible refine JQ_then_ret ?_ | with_reducible refine JQ_block ?_ | with_reducible refine JQ_block_ret ?_ | with_reducible refine JQ_hit ?_ | ((with_reducible refine JQ_block_miss ?_ ?_); (focus exact rfl)) | with_reducible refine JC_ret ?_ | with_reducible refine JQ_end ?_))
  refine JC_region ?_
  refine JL_1 rfl (op_move rfl) ?_
  refine JL_1 rfl (op_neq (Ev.rfl' rfl) (Ev.rfl' rfl)) ?_
  refine JL_nil ?_
  (repeat (first | with_reducible refine JC_seq ?_ | with_reducible refine JQ_then ?_ | with_reducible refine JC_block ?_ | with_reducible refine JC_skip ?_ | with_reducible refine JC_exit ?_ | with_reducible refine JQ_then_exit ?_ | with_reducible refine JQ_then_ret ?_ | with_reducible refine JQ_block ?_ | with_reducible refine JQ_block_ret ?_ | with_reducible refine JQ_hit ?_ | ((with_reducible refine JQ_block_miss ?_ ?_); (focus exact rfl)) | with_reducible refine JC_ret ?_ | with_reducible refine JQ_end ?_))
  refine JC_cond (Ev.rfl' rfl) (fun h => ?_) (fun h => ?_)
  · have e := valueV_bad (num := num) (ms := ms) (by simpa using h)
    rw [e]
    (repeat (first | with_reducible refine JC_seq ?_ | with_reducible refine JQ_then ?_ | with_reducible refine JC_block ?_ | with_reducible refine JC_skip ?_ | with_reducible refine JC_exit ?_ | with_reducible refine JQ_then_exit ?_ | with_reducible refine JQ_then_ret ?_ | with_reducible refine JQ_block ?_ | with_reducible refine JQ_block_ret ?_ | with_reducible refine JQ_hit ?_ | ((with_reducible refine JQ_block_miss ?_ ?_); (focus exact rfl)) | with_reducible refine JC_ret ?_ | with_reducible refine JQ_end ?_))
    refine JC_region ?_
    refine JL_1 rfl (op_move rfl) ?_
    refine JL_1 rfl (op_assign rfl) ?_
    refine JL_1 rfl (op_assign rfl) ?_
    refine JL_nil ?_
    (repeat (first | with_reducible refine JC_seq ?_ | with_reducible refine JQ_then ?_ | with_reducible refine JC_block ?_ | with_reducible refine JC_skip ?_ | with_reducible refine JC_exit ?_ | with_reducible refine JQ_then_exit ?_ | with_reducible refine JQ_then_ret ?_ | with_reducible refine JQ_block ?_ | with_reducible refine JQ_block_ret ?_ | with_reducible refine JQ_hit ?_ | ((with_reducible refine JQ_block_miss ?_ ?_); (focus exact rfl)) | with_reducible refine JC_ret ?_ | with_reducible refine JQ_end ?_))
    exact JQ_ret (Bs := [Is (.int .u64 (UV 0#64)), Is (.int .i64 (validV num ms 5))]) Try.results11 ⟨⟨_, rfl, (by (repeat' (first | exact SubL.rfl' | exact SubL.nil | exact SubL.top | exact trivial | refine SubL.agg ?_ | refine SubL.tup ?_ | exact SubL.fact (by repeat (first | exact List.Mem.head _ | apply List.Mem.tail)) | refine SubL.row (by rfl) (by rfl) ?_ | refine SubL.lit rfl ?_ | refine SubL.iteT (by first | assumption | (simp; done) | (simp_all; done)) ?_ | refine ⟨?_, ?_⟩)))⟩, ⟨⟨_, rfl, (by (repeat' (first | exact SubL.rfl' | exact SubL.nil | exact SubL.top | exact trivial | refine SubL.agg ?_ | refine SubL.tup ?_ | exact SubL.fact (by repeat (first | exact List.Mem.head _ | apply List.Mem.tail)) | refine SubL.row (by rfl) (by rfl) ?_ | refine SubL.lit rfl ?_ | refine SubL.iteT (by first | assumption | (simp; done) | (simp_all; done)) ?_ | refine ⟨?_, ?_⟩)))⟩, trivial⟩⟩ () SubL.rfl' (List.nil_sublist _)
  have e0 : validV num ms 5 = 0 := by simpa using h
  rw [valueV_ok e0]
  obtain ⟨_, _, _, g4, g5, _⟩ := validV_zero e0
  clear h
  (repeat (first | with_reducible refine JC_seq ?_ | with_reducible refine JQ_then ?_ | with_reducible refine JC_block ?_ | with_reducible refine JC_skip ?_ | with_reducible refine JC_exit ?_ | with_reducible refine JQ_then_exit ?_ | with_reducible refine JQ_then_ret ?_ | with_reducible refine JQ_block ?_ | with_reducible refine JQ_block_ret ?_ | with_reducible refine JQ_hit ?_ | ((with_reducible refine JQ_block_miss ?_ ?_); (focus exact rfl)) | with_reducible refine JC_ret ?_ | with_reducible refine JQ_end ?_))
  refine JC_region ?_
  refine JL_1 rfl (op_assign rfl) ?_
  refine JL_nil ?_
  (repeat (first | with_reducible refine JC_seq ?_ | with_reducible refine JQ_then ?_ | with_reducible refine JC_block ?_ | with_reducible refine JC_skip ?_ | with_reducible refine JC_exit ?_ | with_reducible refine JQ_then_exit ?_ | with_reducible refine JQ_then_ret ?_ | with_reducible refine JQ_block ?_ | with_reducible refine JQ_block_ret ?_ | with_reducible refine JQ_hit ?_ | ((with_reducible refine JQ_block_miss ?_ ?_); (focus exact rfl)) | with_reducible refine JC_ret ?_ | with_reducible refine JQ_end ?_))
  (repeat (first | with_reducible refine JC_seq ?_ | with_reducible refine JQ_then ?_ | with_reducible refine JC_block ?_ | with_reducible refine JC_skip ?_ | with_reducible refine JC_exit ?_ | with_reducible refine JQ_then_exit ?_ | with_reducible refine JQ_then_ret ?_ | with_reducible refine JQ_block ?_ | with_reducible refine JQ_block_ret ?_ | with_reducible refine JQ_hit ?_ | ((with_reducible refine JQ_block_miss ?_ ?_); (focus exact rfl)) | with_reducible refine JC_ret ?_ | with_reducible refine JQ_end ?_))
  refine JC_region ?_
  refine JL_1 rfl (by first | exact op_fieldPtr (k := 1) (Ev.rfl' rfl) rfl rfl rfl rfl | exact op_fieldRef (k := 1) (Ev.rfl' rfl) rfl rfl rfl rfl) ?_
  refine JL_1 rfl (by first | exact op_loadRef (Ev.rfl' rfl) rfl rfl rfl | exact op_loadPtr (Ev.rfl' rfl) (by repeat (first | exact List.Mem.head _ | apply List.Mem.tail)) (by rfl) (by rfl) (by rfl)) ?_
  refine JL_1 rfl (by first | exact op_len (Ev.rfl' rfl) rfl | exact op_lenLit (Ev.rfl' rfl) rfl) ?_
  refine JL_1 rfl (op_move rfl) ?_
  refine JL_nil ?_
  (repeat (first | with_reducible refine JC_seq ?_ | with_reducible refine JQ_then ?_ | with_reducible refine JC_block ?_ | with_reducible refine JC_skip ?_ | with_reducible refine JC_exit ?_ | with_reducible refine JQ_then_exit ?_ | with_reducible refine JQ_then_ret ?_ | with_reducible refine JQ_block ?_ | with_reducible refine JQ_block_ret ?_ | with_reducible refine JQ_hit ?_ | ((with_reducible refine JQ_block_miss ?_ ?_); (focus exact rfl)) | with_reducible refine JC_ret ?_ | with_reducible refine JQ_end ?_))
  refine JC_loopP (fun k : Nat => k ≤ ms.length) (fun k => [(5, Is (.int .u64 (UV ((ms.take k).foldl stepV 549755813888#64)))), (15, IsSl tMb ms), (16, Is (.int .i64 ms.length)), (17, Is (.int .i64 (k : Nat)))])
    (fun k => []) (fun k => ms.length - k) 0 (Nat.zero_le _) (by (repeat (refine ⟨⟨_, rfl, (by (repeat' (first | exact SubL.rfl' | exact SubL.nil | exact SubL.top | exact trivial | refine SubL.agg ?_ | refine SubL.tup ?_ | exact SubL.fact (by repeat (first | exact List.Mem.head _ | apply List.Mem.tail)) | refine SubL.row (by rfl) (by rfl) ?_ | refine SubL.lit rfl ?_ | refine SubL.iteT (by first | assumption | (simp; done) | (simp_all; done)) ?_ | refine ⟨?_, ?_⟩)))⟩, ?_⟩)); exact trivial) (by repeat (first | exact SubP.nil _ | refine SubP.cons (by repeat (first | exact Drop1.here _ _ | apply Drop1.next)) ?_)) ?_
  intro k hk
  (repeat (first | with_reducible refine JC_seq ?_ | with_reducible refine JQ_then ?_ | with_reducible refine JC_block ?_ | with_reducible refine JC_skip ?_ | with_reducible refine JC_exit ?_ | with_reducible refine JQ_then_exit ?_ | with_reducible refine JQ_then_ret ?_ | with_reducible refine JQ_block ?_ | with_reducible refine JQ_block_ret ?_ | with_reducible refine JQ_hit ?_ | ((with_reducible refine JQ_block_miss ?_ ?_); (focus exact rfl)) | with_reducible refine JC_ret ?_ | with_reducible refine JQ_end ?_))
  refine JC_region ?_
  refine JL_1 rfl (op_lss (Ev.rfl' rfl) (Ev.rfl' rfl)) ?_
  refine JL_nil ?_
  (repeat (first | with_reducible refine JC_seq ?_ | with_reducible refine JQ_then ?_ | with_reducible refine JC_block ?_ | with_reducible refine JC_skip ?_ | with_reducible refine JC_exit ?_ | with_reducible refine JQ_then_exit ?_ | with_reducible refine JQ_then_ret ?_ | with_reducible refine JQ_block ?_ | with_reducible refine JQ_block_ret ?_ | with_reducible refine JQ_hit ?_ | ((with_reducible refine JQ_block_miss ?_ ?_); (focus exact rfl)) | with_reducible refine JC_ret ?_ | with_reducible refine JQ_end ?_))
  refine JC_cond (Ev.rfl' rfl) (fun h => ?_) (fun h => ?_)
  · have h' : (k : Int) < ms.length := of_decide_eq_true h
    clear h
    have hz := Mb.at_get ms k (by omega)
    have ha := g4 k (by omega)
    have hb := g5 k (by omega)
    have hf := take_foldl stepV 549755813888#64 ms k (by omega)
    unfold AscM at ha
    unfold BootM at hb
    generalize Mb.at ms k = m at *
    obtain ⟨a1, a2, _⟩ := ha
    (repeat (first | with_reducible refine JC_seq ?_ | with_reducible refine JQ_then ?_ | with_reducible refine JC_block ?_ | with_reducible refine JC_skip ?_ | with_reducible refine JC_exit ?_ | with_reducible refine JQ_then_exit ?_ | with_reducible refine JQ_then_ret ?_ | with_reducible refine JQ_block ?_ | with_reducible refine JQ_block_ret ?_ | with_reducible refine JQ_hit ?_ | ((with_reducible refine JQ_block_miss ?_ ?_); (focus exact rfl)) | with_reducible refine JC_ret ?_ | with_reducible refine JQ_end ?_))
    refine JC_region ?_
    refine JL_1 rfl (by first | exact op_index (Ev.rfl' rfl) (Ev.rfl' rfl) rfl rfl (by first | rfl | omega) hz | exact op_index (Ev.rfl' rfl) (Ev.rfl' rfl) rfl rfl (by first | rfl | omega) (by assumption)) ?_
    refine JL_1 rfl (by first | exact op_loadRefs (n := 3) (Ev.rfl' rfl) rfl rfl rfl (by rfl) | exact op_loadPtrs (n := 3) (Ev.rfl' rfl) (by repeat (first | exact List.Mem.head _ | apply List.Mem.tail)) (by rfl) (by rfl) (by rfl) (by rfl)) ?_
    (refine JL_n rfl (op_alloc rfl rfl) ?_; intro i7)
    refine JL_s0 (op_store (Ev.rfl' rfl) (Ev.rfl' rfl) (by first | exact cells_agg | exact cells_is rfl | exact cells_sl | exact cells_ref | exact cells_lit rfl) (by repeat (first | exact Repl.head _ _ _ | apply Repl.tail)) (by rfl) (by rfl) (by rfl)) ?_
    refine JL_nil ?_
    (repeat (first | with_reducible refine JC_seq ?_ | with_reducible refine JQ_then ?_ | with_reducible refine JC_block ?_ | with_reducible refine JC_skip ?_ | with_reducible refine JC_exit ?_ | with_reducible refine JQ_then_exit ?_ | with_reducible refine JQ_then_ret ?_ | with_reducible refine JQ_block ?_ | with_reducible refine JQ_block_ret ?_ | with_reducible refine JQ_hit ?_ | ((with_reducible refine JQ_block_miss ?_ ?_); (focus exact rfl)) | with_reducible refine JC_ret ?_ | with_reducible refine JQ_end ?_))
    (repeat (first | with_reducible refine JC_seq ?_ | with_reducible refine JQ_then ?_ | with_reducible refine JC_block ?_ | with_reducible refine JC_skip ?_ | with_reducible refine JC_exit ?_ | with_reducible refine JQ_then_exit ?_ | with_reducible refine JQ_then_ret ?_ | with_reducible refine JQ_block ?_ | with_reducible refine JQ_block_ret ?_ | with_reducible refine JQ_hit ?_ | ((with_reducible refine JQ_block_miss ?_ ?_); (focus exact rfl)) | with_reducible refine JC_ret ?_ | with_reducible refine JQ_end ?_))
    refine JC_region ?_
    refine JL_1 rfl (by first | exact op_fieldPtr (k := 1) (Ev.rfl' rfl) rfl rfl rfl rfl | exact op_fieldRef (k := 1) (Ev.rfl' rfl) rfl rfl rfl rfl) ?_
    refine JL_1 rfl (by first | exact op_loadRef (Ev.rfl' rfl) rfl rfl rfl | exact op_loadPtr (Ev.rfl' rfl) (by repeat (first | exact List.Mem.head _ | apply List.Mem.tail)) (by rfl) (by rfl) (by rfl)) ?_
    refine JL_1 rfl (op_shl (Ev.rfl' rfl) (Ev.rfl' rfl) (by first | omega | exact UV_nonneg _) rfl) ?_
    refine JL_1 rfl (op_bits (Ev.rfl' rfl) (Ev.rfl' rfl) (by simp) rfl) ?_
    refine JL_1 rfl (op_conv (Ev.rfl' rfl) rfl rfl (by first | with_reducible exact to_u64_64 _ | with_reducible exact to_u32_32 _ | with_reducible exact to_u8_8 _ | with_reducible exact to_u64_8 _ | with_reducible exact to_u64_32 _ | with_reducible exact to_u8_64 _ | with_reducible exact to_u32_64 _ | with_reducible exact to_i64_8 _ | with_reducible exact to_i64_32 _ | exact wI64 (by omega) | exact wU64 (by omega) | exact wU32 (by omega) | with_reducible exact to_i64_64 _ | rfl)) ?_
    refine JL_1 rfl (op_assign rfl) ?_
    refine JL_nil ?_
    (repeat (first | with_reducible refine JC_seq ?_ | with_reducible refine JQ_then ?_ | with_reducible refine JC_block ?_ | with_reducible refine JC_skip ?_ | with_reducible refine JC_exit ?_ | with_reducible refine JQ_then_exit ?_ | with_reducible refine JQ_then_ret ?_ | with_reducible refine JQ_block ?_ | with_reducible refine JQ_block_ret ?_ | with_reducible refine JQ_hit ?_ | ((with_reducible refine JQ_block_miss ?_ ?_); (focus exact rfl)) | with_reducible refine JC_ret ?_ | with_reducible refine JQ_end ?_))
    refine JC_set 8 (Is (.int .u64 (UV (1#64 ||| BitVec.ofInt 64 m.b <<< 2)))) rfl (SubL.eq (congrArg Is (vbits m.b hb.1 hb.2))) ?_
    (repeat (first | with_reducible refine JC_seq ?_ | with_reducible refine JQ_then ?_ | with_reducible refine JC_block ?_ | with_reducible refine JC_skip ?_ | with_reducible refine JC_exit ?_ | with_reducible refine JQ_then_exit ?_ | with_reducible refine JQ_then_ret ?_ | with_reducible refine JQ_block ?_ | with_reducible refine JQ_block_ret ?_ | with_reducible refine JQ_hit ?_ | ((with_reducible refine JQ_block_miss ?_ ?_); (focus exact rfl)) | with_reducible refine JC_ret ?_ | with_reducible refine JQ_end ?_))
    refine JC_region ?_
    refine JL_1 rfl (by first | exact op_fieldPtr (k := 2) (Ev.rfl' rfl) rfl rfl rfl rfl | exact op_fieldRef (k := 2) (Ev.rfl' rfl) rfl rfl rfl rfl) ?_
    refine JL_1 rfl (by first | exact op_loadRef (Ev.rfl' rfl) rfl rfl rfl | exact op_loadPtr (Ev.rfl' rfl) (by repeat (first | exact List.Mem.head _ | apply List.Mem.tail)) (by rfl) (by rfl) (by rfl)) ?_
    refine JL_nil ?_
    (repeat (first | with_reducible refine JC_seq ?_ | with_reducible refine JQ_then ?_ | with_reducible refine JC_block ?_ | with_reducible refine JC_skip ?_ | with_reducible refine JC_exit ?_ | with_reducible refine JQ_then_exit ?_ | with_reducible refine JQ_then_ret ?_ | with_reducible refine JQ_block ?_ | with_reducible refine JQ_block_ret ?_ | with_reducible refine JQ_hit ?_ | ((with_reducible refine JQ_block_miss ?_ ?_); (focus exact rfl)) | with_reducible refine JC_ret ?_ | with_reducible refine JQ_end ?_))
    refine JC_cutT (fun _ : Unit => True) (fun _ => [(5, Is (.int .u64 (UV ((ms.take k).foldl stepV 549755813888#64)))), (15, IsSl tMb ms), (16, Is (.int .i64 ms.length)), (17, Is (.int .i64 (k : Nat))), (7, Is (.pointer (some ⟨i7, 0, none⟩))), (8, Is (.int .u64 (UV (bitsM m))))])
      (fun _ => [blk i7 45 (tMb.cells m)]) ?_ ?_
    · rintro _ _
      (repeat (first | with_reducible refine JC_seq ?_ | with_reducible refine JQ_then ?_ | with_reducible refine JC_block ?_ | with_reducible refine JC_skip ?_ | with_reducible refine JC_exit ?_ | with_reducible refine JQ_then_exit ?_ | with_reducible refine JQ_then_ret ?_ | with_reducible refine JQ_block ?_ | with_reducible refine JQ_block_ret ?_ | with_reducible refine JQ_hit ?_ | ((with_reducible refine JQ_block_miss ?_ ?_); (focus exact rfl)) | with_reducible refine JC_ret ?_ | with_reducible refine JQ_end ?_))
      refine JC_region ?_
      refine JL_1 rfl (op_move rfl) ?_
      refine JL_1 rfl (op_move rfl) ?_
      refine JL_1 rfl (by first | exact op_fieldPtr (k := 0) (Ev.rfl' rfl) rfl rfl rfl rfl | exact op_fieldRef (k := 0) (Ev.rfl' rfl) rfl rfl rfl rfl) ?_
      refine JL_1 rfl (by first | exact op_loadRef (Ev.rfl' rfl) rfl rfl rfl | exact op_loadPtr (Ev.rfl' rfl) (by repeat (first | exact List.Mem.head _ | apply List.Mem.tail)) (by rfl) (by rfl) (by rfl)) ?_
      refine JL_1 rfl (op_mul (Ev.rfl' rfl) (Ev.rfl' rfl) (by first | exact wI64 (by omega) | exact wU64 (by omega) | exact wU32 (by omega) | rfl)) ?_
      refine JL_1 rfl (op_conv (Ev.rfl' rfl) rfl rfl (by first | with_reducible exact to_u64_64 _ | with_reducible exact to_u32_32 _ | with_reducible exact to_u8_8 _ | with_reducible exact to_u64_8 _ | with_reducible exact to_u64_32 _ | with_reducible exact to_u8_64 _ | with_reducible exact to_u32_64 _ | with_reducible exact to_i64_8 _ | with_reducible exact to_i64_32 _ | exact wI64 (by omega) | exact wU64 (by omega) | exact wU32 (by omega) | with_reducible exact to_i64_64 _ | rfl)) ?_
      refine JL_1 rfl (by first | exact op_shlU (k := (7 * m.n).toNat) (by first | exact Ev.rfl' rfl | exact Ev.sub rfl (SubL.eq (congrArg Is (u64lit (by first | decide | omega))))) (Ev.rfl' rfl) (by first | omega | exact UV_nonneg _) (by first | rfl | assumption | omega) | exact op_shl (Ev.rfl' rfl) (Ev.rfl' rfl) (by first | omega | exact UV_nonneg _) rfl) ?_
      refine JL_1 rfl (by first | exact op_bits (by first | exact Ev.rfl' rfl | exact Ev.sub rfl (SubL.eq (congrArg Is (u64lit (by first | decide | omega))))) (by first | exact Ev.rfl' rfl | exact Ev.sub rfl (SubL.eq (congrArg Is (u64lit (by first | decide | omega))))) (by simp) (or_u64 _ _) | exact op_bits (Ev.rfl' rfl) (Ev.rfl' rfl) (by simp) rfl) ?_
      refine JL_1 rfl (op_assign rfl) ?_
      refine JL_nil ?_
      (repeat (first | with_reducible refine JC_seq ?_ | with_reducible refine JQ_then ?_ | with_reducible refine JC_block ?_ | with_reducible refine JC_skip ?_ | with_reducible refine JC_exit ?_ | with_reducible refine JQ_then_exit ?_ | with_reducible refine JQ_then_ret ?_ | with_reducible refine JQ_block ?_ | with_reducible refine JQ_block_ret ?_ | with_reducible refine JQ_hit ?_ | ((with_reducible refine JQ_block_miss ?_ ?_); (focus exact rfl)) | with_reducible refine JC_ret ?_ | with_reducible refine JQ_end ?_))
      refine JC_set 5 (Is (.int .u64 (UV ((ms.take (k + 1)).foldl stepV 549755813888#64)))) rfl (SubL.eq (by rw [hf]; rfl)) ?_
      (repeat (first | with_reducible refine JC_seq ?_ | with_reducible refine JQ_then ?_ | with_reducible refine JC_block ?_ | with_reducible refine JC_skip ?_ | with_reducible refine JC_exit ?_ | with_reducible refine JQ_then_exit ?_ | with_reducible refine JQ_then_ret ?_ | with_reducible refine JQ_block ?_ | with_reducible refine JQ_block_ret ?_ | with_reducible refine JQ_hit ?_ | ((with_reducible refine JQ_block_miss ?_ ?_); (focus exact rfl)) | with_reducible refine JC_ret ?_ | with_reducible refine JQ_end ?_))
      refine JC_region ?_
      refine JL_1 rfl (op_add (Ev.rfl' rfl) (Ev.rfl' rfl) (by first | exact wI64 (by omega) | exact wU64 (by omega) | exact wU32 (by omega) | rfl)) ?_
      refine JL_1 rfl (op_move rfl) ?_
      refine JL_nil ?_
      (repeat (first | with_reducible refine JC_seq ?_ | with_reducible refine JQ_then ?_ | with_reducible refine JC_block ?_ | with_reducible refine JC_skip ?_ | with_reducible refine JC_exit ?_ | with_reducible refine JQ_then_exit ?_ | with_reducible refine JQ_then_ret ?_ | with_reducible refine JQ_block ?_ | with_reducible refine JQ_block_ret ?_ | with_reducible refine JQ_hit ?_ | ((with_reducible refine JQ_block_miss ?_ ?_); (focus exact rfl)) | with_reducible refine JC_ret ?_ | with_reducible refine JQ_end ?_))
      exact JQ_roundP (k + 1) (by omega) (by omega) (by (repeat (refine ⟨⟨_, rfl, (by (repeat' (first | exact SubL.rfl' | exact SubL.nil | exact SubL.top | exact trivial | refine SubL.agg ?_ | refine SubL.tup ?_ | exact SubL.fact (by repeat (first | exact List.Mem.head _ | apply List.Mem.tail)) | refine SubL.row (by rfl) (by rfl) ?_ | refine SubL.lit rfl ?_ | refine SubL.iteT (by first | assumption | (simp; done) | (simp_all; done)) ?_ | refine ⟨?_, ?_⟩)))⟩, ?_⟩)); exact trivial) (by repeat (first | exact SubP.nil _ | refine SubP.cons (by repeat (first | exact Drop1.here _ _ | apply Drop1.next)) ?_))
    · refine JC_cond (Ev.rfl' rfl) (fun h => ?_) (fun h => ?_)
      · have e1 : bitsM m = (1#64 ||| BitVec.ofInt 64 m.b <<< 2) ||| 2#64 := by unfold bitsM; rw [h]; rfl
        rw [e1]
        (repeat (first | with_reducible refine JC_seq ?_ | with_reducible refine JQ_then ?_ | with_reducible refine JC_block ?_ | with_reducible refine JC_skip ?_ | with_reducible refine JC_exit ?_ | with_reducible refine JQ_then_exit ?_ | with_reducible refine JQ_then_ret ?_ | with_reducible refine JQ_block ?_ | with_reducible refine JQ_block_ret ?_ | with_reducible refine JQ_hit ?_ | ((with_reducible refine JQ_block_miss ?_ ?_); (focus exact rfl)) | with_reducible refine JC_ret ?_ | with_reducible refine JQ_end ?_))
        refine JC_region ?_
        refine JL_1 rfl (op_move rfl) ?_
        refine JL_1 rfl (by first | exact op_bits (by first | exact Ev.rfl' rfl | exact Ev.sub rfl (SubL.eq (congrArg Is (u64lit (by first | decide | omega))))) (by first | exact Ev.rfl' rfl | exact Ev.sub rfl (SubL.eq (congrArg Is (u64lit (by first | decide | omega))))) (by simp) (or_u64 _ _) | exact op_bits (Ev.rfl' rfl) (Ev.rfl' rfl) (by simp) rfl) ?_
        refine JL_1 rfl (op_assign rfl) ?_
        refine JL_nil ?_
        (repeat (first | with_reducible refine JC_seq ?_ | with_reducible refine JQ_then ?_ | with_reducible refine JC_block ?_ | with_reducible refine JC_skip ?_ | with_reducible refine JC_exit ?_ | with_reducible refine JQ_then_exit ?_ | with_reducible refine JQ_then_ret ?_ | with_reducible refine JQ_block ?_ | with_reducible refine JQ_block_ret ?_ | with_reducible refine JQ_hit ?_ | ((with_reducible refine JQ_block_miss ?_ ?_); (focus exact rfl)) | with_reducible refine JC_ret ?_ | with_reducible refine JQ_end ?_))
        exact JQ_meetP () trivial (by (repeat (refine ⟨⟨_, rfl, (by (repeat' (first | exact SubL.rfl' | exact SubL.nil | exact SubL.top | exact trivial | refine SubL.agg ?_ | refine SubL.tup ?_ | exact SubL.fact (by repeat (first | exact List.Mem.head _ | apply List.Mem.tail)) | refine SubL.row (by rfl) (by rfl) ?_ | refine SubL.lit rfl ?_ | refine SubL.iteT (by first | assumption | (simp; done) | (simp_all; done)) ?_ | refine ⟨?_, ?_⟩)))⟩, ?_⟩)); exact trivial) (by repeat (first | exact SubP.nil _ | refine SubP.cons (by repeat (first | exact Drop1.here _ _ | apply Drop1.next)) ?_))
      · have e1 : bitsM m = 1#64 ||| BitVec.ofInt 64 m.b <<< 2 := by unfold bitsM; rw [h]; rfl
        rw [e1]
        (repeat (first | with_reducible refine JC_seq ?_ | with_reducible refine JQ_then ?_ | with_reducible refine JC_block ?_ | with_reducible refine JC_skip ?_ | with_reducible refine JC_exit ?_ | with_reducible refine JQ_then_exit ?_ | with_reducible refine JQ_then_ret ?_ | with_reducible refine JQ_block ?_ | with_reducible refine JQ_block_ret ?_ | with_reducible refine JQ_hit ?_ | ((with_reducible refine JQ_block_miss ?_ ?_); (focus exact rfl)) | with_reducible refine JC_ret ?_ | with_reducible refine JQ_end ?_))
        exact JQ_meetP () trivial (by (repeat (refine ⟨⟨_, rfl, (by (repeat' (first | exact SubL.rfl' | exact SubL.nil | exact SubL.top | exact trivial | refine SubL.agg ?_ | refine SubL.tup ?_ | exact SubL.fact (by repeat (first | exact List.Mem.head _ | apply List.Mem.tail)) | refine SubL.row (by rfl) (by rfl) ?_ | refine SubL.lit rfl ?_ | refine SubL.iteT (by first | assumption | (simp; done) | (simp_all; done)) ?_ | refine ⟨?_, ?_⟩)))⟩, ?_⟩)); exact trivial) (by repeat (first | exact SubP.nil _ | refine SubP.cons (by repeat (first | exact Drop1.here _ _ | apply Drop1.next)) ?_))
  have e1 : k = ms.length := by have := of_decide_eq_false h; omega
  subst e1
  rw [List.take_length]
  clear h
  (repeat (first | with_reducible refine JC_seq ?_ | with_reducible refine JQ_then ?_ | with_reducible refine JC_block ?_ | with_reducible refine JC_skip ?_ | with_reducible refine JC_exit ?_ | with_reducible refine JQ_then_exit ?_ | with_reducible refine JQ_then_ret ?_ | with_reducible refine JQ_block ?_ | with_reducible refine JQ_block_ret ?_ | with_reducible refine JQ_hit ?_ | ((with_reducible refine JQ_block_miss ?_ ?_); (focus exact rfl)) | with_reducible refine JC_ret ?_ | with_reducible refine JQ_end ?_))
  refine JC_region ?_
  refine JL_1 rfl (op_move rfl) ?_
  refine JL_1 rfl (op_assign rfl) ?_
  refine JL_1 rfl (op_assign rfl) ?_
  refine JL_nil ?_
  (repeat (first | with_reducible refine JC_seq ?_ | with_reducible refine JQ_then ?_ | with_reducible refine JC_block ?_ | with_reducible refine JC_skip ?_ | with_reducible refine JC_exit ?_ | with_reducible refine JQ_then_exit ?_ | with_reducible refine JQ_then_ret ?_ | with_reducible refine JQ_block ?_ | with_reducible refine JQ_block_ret ?_ | with_reducible refine JQ_hit ?_ | ((with_reducible refine JQ_block_miss ?_ ?_); (focus exact rfl)) | with_reducible refine JC_ret ?_ | with_reducible refine JQ_end ?_))
  exact JQ_ret (Bs := [Is (.int .u64 (UV (wordV ms))), Is (.int .i64 0)]) Try.results11 ⟨⟨_, rfl, (by (repeat' (first | exact SubL.rfl' | exact SubL.nil | exact SubL.top | exact trivial | refine SubL.agg ?_ | refine SubL.tup ?_ | exact SubL.fact (by repeat (first | exact List.Mem.head _ | apply List.Mem.tail)) | refine SubL.row (by rfl) (by rfl) ?_ | refine SubL.lit rfl ?_ | refine SubL.iteT (by first | assumption | (simp; done) | (simp_all; done)) ?_ | refine ⟨?_, ?_⟩)))⟩, ⟨⟨_, rfl, (by (repeat' (first | exact SubL.rfl' | exact SubL.nil | exact SubL.top | exact trivial | refine SubL.agg ?_ | refine SubL.tup ?_ | exact SubL.fact (by repeat (first | exact List.Mem.head _ | apply List.Mem.tail)) | refine SubL.row (by rfl) (by rfl) ?_ | refine SubL.lit rfl ?_ | refine SubL.iteT (by first | assumption | (simp; done) | (simp_all; done)) ?_ | refine ⟨?_, ?_⟩)))⟩, trivial⟩⟩ () SubL.rfl' (List.nil_sublist _)
set_option maxHeartbeats 2000000 in
-- bodegaref9.Value: function 12
theorem ValueR_ok (num : Int) (ms : List Mb) (hsm : ms.length ≤ 1000000) : FnP Try.prog 12 [IsView num ms] (IsTup [Is (.int .u64 (UV (valueV num ms).1)), Is (.int .i64 (valueV num ms).2)]) := by
  refine FnP.enter Try.func12 Try.ntmps12 rfl rfl ?_
  intro c hX
  (repeat (first | with_reducible refine JC_seq ?_ | with_reducible refine JQ_then ?_ | with_reducible refine JC_block ?_ | with_reducible refine JC_skip ?_ | with_reducible refine JC_exit ?_ | with_reducible refine JQ_then_exit ?_ | with_reducible refine JQ_then_ret ?_ | with_reducible refine JQ_block ?_ | with_reducible refine JQ_block_ret ?_ | with_reducible refine JQ_hit ?_ | ((with_reducible refine JQ_block_miss ?_ ?_); (focus exact rfl)) | with_reducible refine JC_ret ?_ | with_reducible refine JQ_end ?_))
  (repeat (first | with_reducible refine JC_seq ?_ | with_reducible refine JQ_then ?_ | with_reducible refine JC_block ?_ | with_reducible refine JC_skip ?_ | with_reducible refine JC_exit ?_ | with_reducible refine JQ_then_exit ?_ | with_reducible refine JQ_then_ret ?_ | with_reducible refine JQ_block ?_ | with_reducible refine JQ_block_ret ?_ | with_reducible refine JQ_hit ?_ | ((with_reducible refine JQ_block_miss ?_ ?_); (focus exact rfl)) | with_reducible refine JC_ret ?_ | with_reducible refine JQ_end ?_))
  refine JC_region ?_
  (refine JL_n rfl (op_box (Ev.rfl' rfl) (by first | exact cells_agg | exact cells_is rfl | exact cells_sl | exact cells_ref | exact cells_lit rfl)) ?_; intro i1)
  refine JL_1 rfl (op_assign rfl) ?_
  refine JL_1 rfl (op_assign rfl) ?_
  refine JL_nil ?_
  (repeat (first | with_reducible refine JC_seq ?_ | with_reducible refine JQ_then ?_ | with_reducible refine JC_block ?_ | with_reducible refine JC_skip ?_ | with_reducible refine JC_exit ?_ | with_reducible refine JQ_then_exit ?_ | with_reducible refine JQ_then_ret ?_ | with_reducible refine JQ_block ?_ | with_reducible refine JQ_block_ret ?_ | with_reducible refine JQ_hit ?_ | ((with_reducible refine JQ_block_miss ?_ ?_); (focus exact rfl)) | with_reducible refine JC_ret ?_ | with_reducible refine JQ_end ?_))
  (repeat (first | with_reducible refine JC_seq ?_ | with_reducible refine JQ_then ?_ | with_reducible refine JC_block ?_ | with_reducible refine JC_skip ?_ | with_reducible refine JC_exit ?_ | with_reducible refine JQ_then_exit ?_ | with_reducible refine JQ_then_ret ?_ | with_reducible refine JQ_block ?_ | with_reducible refine JQ_block_ret ?_ | with_reducible refine JQ_hit ?_ | ((with_reducible refine JQ_block_miss ?_ ?_); (focus exact rfl)) | with_reducible refine JC_ret ?_ | with_reducible refine JQ_end ?_))
  refine JC_region ?_
  refine JL_1 rfl (by first | exact op_loadRefs (n := 2) (Ev.rfl' rfl) rfl rfl rfl (by rfl) | exact op_loadPtrs (n := 2) (Ev.rfl' rfl) (by repeat (first | exact List.Mem.head _ | apply List.Mem.tail)) (by rfl) (by rfl) (by rfl) (by rfl)) ?_
  refine JL_1 rfl (by first | ((refine op_call Try.call20 (ValidR_ok _ _ _ ?_) ⟨(by first | exact Ev.rfl' rfl | exact Ev.sub rfl (by (repeat' (first | exact SubL.rfl' | exact SubL.nil | exact SubL.top | exact trivial | refine SubL.agg ?_ | refine SubL.tup ?_ | exact SubL.fact (by repeat (first | exact List.Mem.head _ | apply List.Mem.tail)) | refine SubL.row (by rfl) (by rfl) ?_ | refine SubL.lit rfl ?_ | refine SubL.iteT (by first | assumption | (simp; done) | (simp_all; done)) ?_ | refine ⟨?_, ?_⟩)))), ⟨(by first | exact Ev.rfl' rfl | exact Ev.sub rfl (by (repeat' (first | exact SubL.rfl' | exact SubL.nil | exact SubL.top | exact trivial | refine SubL.agg ?_ | refine SubL.tup ?_ | exact SubL.fact (by repeat (first | exact List.Mem.head _ | apply List.Mem.tail)) | refine SubL.row (by rfl) (by rfl) ?_ | refine SubL.lit rfl ?_ | refine SubL.iteT (by first | assumption | (simp; done) | (simp_all; done)) ?_ | refine ⟨?_, ?_⟩)))), trivial⟩⟩); all_goals (first | omega))) ?_
  refine JL_1 rfl (op_assign rfl) ?_
  refine JL_nil ?_
  (repeat (first | with_reducible refine JC_seq ?_ | with_reducible refine JQ_then ?_ | with_reducible refine JC_block ?_ | with_reducible refine JC_skip ?_ | with_reducible refine JC_exit ?_ | with_reducible refine JQ_then_exit ?_ | with_reducible refine JQ_then_ret ?_ | with_reducible refine JQ_block ?_ | with_reducible refine JQ_block_ret ?_ | with_reducible refine JQ_hit ?_ | ((with_reducible refine JQ_block_miss ?_ ?_); (focus exact rfl)) | with_reducible refine JC_ret ?_ | with_reducible refine JQ_end ?_))
  (repeat (first | with_reducible refine JC_seq ?_ | with_reducible refine JQ_then ?_ | with_reducible refine JC_block ?_ | with_reducible refine JC_skip ?_ | with_reducible refine JC_exit ?_ | with_reducible refine JQ_then_exit ?_ | with_reducible refine JQ_then_ret ?_ | with_reducible refine JQ_block ?_ | with_reducible refine JQ_block_ret ?_ | with_reducible refine JQ_hit ?_ | ((with_reducible refine JQ_block_miss ?_ ?_); (focus exact rfl)) | with_reducible refine JC_ret ?_ | with_reducible refine JQ_end ?_))
  refine JC_region ?_
  refine JL_1 rfl (op_move rfl) ?_
  refine JL_1 rfl (op_neq (Ev.rfl' rfl) (Ev.rfl' rfl)) ?_
  refine JL_nil ?_
  (repeat (first | with_reducible refine JC_seq ?_ | with_reducible refine JQ_then ?_ | with_reducible refine JC_block ?_ | with_reducible refine JC_skip ?_ | with_reducible refine JC_exit ?_ | with_reducible refine JQ_then_exit ?_ | with_reducible refine JQ_then_ret ?_ | with_reducible refine JQ_block ?_ | with_reducible refine JQ_block_ret ?_ | with_reducible refine JQ_hit ?_ | ((with_reducible refine JQ_block_miss ?_ ?_); (focus exact rfl)) | with_reducible refine JC_ret ?_ | with_reducible refine JQ_end ?_))
  refine JC_cond (Ev.rfl' rfl) (fun h => ?_) (fun h => ?_)
  · have e := valueV_bad (num := num) (ms := ms) (by simpa using h)
    rw [e]
    (repeat (first | with_reducible refine JC_seq ?_ | with_reducible refine JQ_then ?_ | with_reducible refine JC_block ?_ | with_reducible refine JC_skip ?_ | with_reducible refine JC_exit ?_ | with_reducible refine JQ_then_exit ?_ | with_reducible refine JQ_then_ret ?_ | with_reducible refine JQ_block ?_ | with_reducible refine JQ_block_ret ?_ | with_reducible refine JQ_hit ?_ | ((with_reducible refine JQ_block_miss ?_ ?_); (focus exact rfl)) | with_reducible refine JC_ret ?_ | with_reducible refine JQ_end ?_))
    refine JC_region ?_
    refine JL_1 rfl (op_move rfl) ?_
    refine JL_1 rfl (op_assign rfl) ?_
    refine JL_1 rfl (op_assign rfl) ?_
    refine JL_nil ?_
    (repeat (first | with_reducible refine JC_seq ?_ | with_reducible refine JQ_then ?_ | with_reducible refine JC_block ?_ | with_reducible refine JC_skip ?_ | with_reducible refine JC_exit ?_ | with_reducible refine JQ_then_exit ?_ | with_reducible refine JQ_then_ret ?_ | with_reducible refine JQ_block ?_ | with_reducible refine JQ_block_ret ?_ | with_reducible refine JQ_hit ?_ | ((with_reducible refine JQ_block_miss ?_ ?_); (focus exact rfl)) | with_reducible refine JC_ret ?_ | with_reducible refine JQ_end ?_))
    exact JQ_ret (Bs := [Is (.int .u64 (UV 0#64)), Is (.int .i64 (validV num ms 5))]) Try.results12 ⟨⟨_, rfl, (by (repeat' (first | exact SubL.rfl' | exact SubL.nil | exact SubL.top | exact trivial | refine SubL.agg ?_ | refine SubL.tup ?_ | exact SubL.fact (by repeat (first | exact List.Mem.head _ | apply List.Mem.tail)) | refine SubL.row (by rfl) (by rfl) ?_ | refine SubL.lit rfl ?_ | refine SubL.iteT (by first | assumption | (simp; done) | (simp_all; done)) ?_ | refine ⟨?_, ?_⟩)))⟩, ⟨⟨_, rfl, (by (repeat' (first | exact SubL.rfl' | exact SubL.nil | exact SubL.top | exact trivial | refine SubL.agg ?_ | refine SubL.tup ?_ | exact SubL.fact (by repeat (first | exact List.Mem.head _ | apply List.Mem.tail)) | refine SubL.row (by rfl) (by rfl) ?_ | refine SubL.lit rfl ?_ | refine SubL.iteT (by first | assumption | (simp; done) | (simp_all; done)) ?_ | refine ⟨?_, ?_⟩)))⟩, trivial⟩⟩ () SubL.rfl' (List.nil_sublist _)
  have e0 : validV num ms 5 = 0 := by simpa using h
  rw [valueV_ok e0]
  obtain ⟨_, _, _, g4, g5, _⟩ := validV_zero e0
  clear h
  (repeat (first | with_reducible refine JC_seq ?_ | with_reducible refine JQ_then ?_ | with_reducible refine JC_block ?_ | with_reducible refine JC_skip ?_ | with_reducible refine JC_exit ?_ | with_reducible refine JQ_then_exit ?_ | with_reducible refine JQ_then_ret ?_ | with_reducible refine JQ_block ?_ | with_reducible refine JQ_block_ret ?_ | with_reducible refine JQ_hit ?_ | ((with_reducible refine JQ_block_miss ?_ ?_); (focus exact rfl)) | with_reducible refine JC_ret ?_ | with_reducible refine JQ_end ?_))
  refine JC_region ?_
  refine JL_1 rfl (op_assign rfl) ?_
  refine JL_nil ?_
  (repeat (first | with_reducible refine JC_seq ?_ | with_reducible refine JQ_then ?_ | with_reducible refine JC_block ?_ | with_reducible refine JC_skip ?_ | with_reducible refine JC_exit ?_ | with_reducible refine JQ_then_exit ?_ | with_reducible refine JQ_then_ret ?_ | with_reducible refine JQ_block ?_ | with_reducible refine JQ_block_ret ?_ | with_reducible refine JQ_hit ?_ | ((with_reducible refine JQ_block_miss ?_ ?_); (focus exact rfl)) | with_reducible refine JC_ret ?_ | with_reducible refine JQ_end ?_))
  (repeat (first | with_reducible refine JC_seq ?_ | with_reducible refine JQ_then ?_ | with_reducible refine JC_block ?_ | with_reducible refine JC_skip ?_ | with_reducible refine JC_exit ?_ | with_reducible refine JQ_then_exit ?_ | with_reducible refine JQ_then_ret ?_ | with_reducible refine JQ_block ?_ | with_reducible refine JQ_block_ret ?_ | with_reducible refine JQ_hit ?_ | ((with_reducible refine JQ_block_miss ?_ ?_); (focus exact rfl)) | with_reducible refine JC_ret ?_ | with_reducible refine JQ_end ?_))
  refine JC_region ?_
  refine JL_1 rfl (op_assign rfl) ?_
  refine JL_nil ?_
  (repeat (first | with_reducible refine JC_seq ?_ | with_reducible refine JQ_then ?_ | with_reducible refine JC_block ?_ | with_reducible refine JC_skip ?_ | with_reducible refine JC_exit ?_ | with_reducible refine JQ_then_exit ?_ | with_reducible refine JQ_then_ret ?_ | with_reducible refine JQ_block ?_ | with_reducible refine JQ_block_ret ?_ | with_reducible refine JQ_hit ?_ | ((with_reducible refine JQ_block_miss ?_ ?_); (focus exact rfl)) | with_reducible refine JC_ret ?_ | with_reducible refine JQ_end ?_))
  refine JC_loopP (fun k : Nat => k ≤ ms.length) (fun k => [(5, Is (.int .u64 (UV ((ms.take k).foldl stepV 549755813888#64)))), (1, Is (.pointer (some ⟨i1, 0, none⟩))), (6, Is (.int .i64 (k : Nat)))])
    (fun k => [blk i1 28 [Is (.int .i64 num), IsSl tMb ms]]) (fun k => ms.length - k) 0 (Nat.zero_le _) (by (repeat (refine ⟨⟨_, rfl, (by (repeat' (first | exact SubL.rfl' | exact SubL.nil | exact SubL.top | exact trivial | refine SubL.agg ?_ | refine SubL.tup ?_ | exact SubL.fact (by repeat (first | exact List.Mem.head _ | apply List.Mem.tail)) | refine SubL.row (by rfl) (by rfl) ?_ | refine SubL.lit rfl ?_ | refine SubL.iteT (by first | assumption | (simp; done) | (simp_all; done)) ?_ | refine ⟨?_, ?_⟩)))⟩, ?_⟩)); exact trivial) (by repeat (first | exact SubP.nil _ | refine SubP.cons (by repeat (first | exact Drop1.here _ _ | apply Drop1.next)) ?_)) ?_
  intro k hk
  (repeat (first | with_reducible refine JC_seq ?_ | with_reducible refine JQ_then ?_ | with_reducible refine JC_block ?_ | with_reducible refine JC_skip ?_ | with_reducible refine JC_exit ?_ | with_reducible refine JQ_then_exit ?_ | with_reducible refine JQ_then_ret ?_ | with_reducible refine JQ_block ?_ | with_reducible refine JQ_block_ret ?_ | with_reducible refine JQ_hit ?_ | ((with_reducible refine JQ_block_miss ?_ ?_); (focus exact rfl)) | with_reducible refine JC_ret ?_ | with_reducible refine JQ_end ?_))
  refine JC_region ?_
  refine JL_1 rfl (op_move rfl) ?_
  refine JL_1 rfl (by first | exact op_fieldPtr (k := 1) (Ev.rfl' rfl) rfl rfl rfl rfl | exact op_fieldRef (k := 1) (Ev.rfl' rfl) rfl rfl rfl rfl) ?_
  refine JL_1 rfl (by first | exact op_loadRef (Ev.rfl' rfl) rfl rfl rfl | exact op_loadPtr (Ev.rfl' rfl) (by repeat (first | exact List.Mem.head _ | apply List.Mem.tail)) (by rfl) (by rfl) (by rfl)) ?_
  refine JL_1 rfl (by first | exact op_len (Ev.rfl' rfl) rfl | exact op_lenLit (Ev.rfl' rfl) rfl) ?_
  refine JL_1 rfl (op_lss (Ev.rfl' rfl) (Ev.rfl' rfl)) ?_
  refine JL_nil ?_
  (repeat (first | with_reducible refine JC_seq ?_ | with_reducible refine JQ_then ?_ | with_reducible refine JC_block ?_ | with_reducible refine JC_skip ?_ | with_reducible refine JC_exit ?_ | with_reducible refine JQ_then_exit ?_ | with_reducible refine JQ_then_ret ?_ | with_reducible refine JQ_block ?_ | with_reducible refine JQ_block_ret ?_ | with_reducible refine JQ_hit ?_ | ((with_reducible refine JQ_block_miss ?_ ?_); (focus exact rfl)) | with_reducible refine JC_ret ?_ | with_reducible refine JQ_end ?_))
  refine JC_cond (Ev.rfl' rfl) (fun h => ?_) (fun h => ?_)
  · have h' : (k : Int) < ms.length := of_decide_eq_true h
    clear h
    have hz := Mb.at_get ms k (by omega)
    have ha := g4 k (by omega)
    have hb := g5 k (by omega)
    have hf := take_foldl stepV 549755813888#64 ms k (by omega)
    unfold AscM at ha
    unfold BootM at hb
    generalize Mb.at ms k = m at *
    obtain ⟨a1, a2, _⟩ := ha
    (repeat (first | with_reducible refine JC_seq ?_ | with_reducible refine JQ_then ?_ | with_reducible refine JC_block ?_ | with_reducible refine JC_skip ?_ | with_reducible refine JC_exit ?_ | with_reducible refine JQ_then_exit ?_ | with_reducible refine JQ_then_ret ?_ | with_reducible refine JQ_block ?_ | with_reducible refine JQ_block_ret ?_ | with_reducible refine JQ_hit ?_ | ((with_reducible refine JQ_block_miss ?_ ?_); (focus exact rfl)) | with_reducible refine JC_ret ?_ | with_reducible refine JQ_end ?_))
    refine JC_region ?_
    refine JL_1 rfl (by first | exact op_fieldPtr (k := 1) (Ev.rfl' rfl) rfl rfl rfl rfl | exact op_fieldRef (k := 1) (Ev.rfl' rfl) rfl rfl rfl rfl) ?_
    refine JL_1 rfl (by first | exact op_loadRef (Ev.rfl' rfl) rfl rfl rfl | exact op_loadPtr (Ev.rfl' rfl) (by repeat (first | exact List.Mem.head _ | apply List.Mem.tail)) (by rfl) (by rfl) (by rfl)) ?_
    refine JL_1 rfl (op_move rfl) ?_
    refine JL_1 rfl (by first | exact op_index (Ev.rfl' rfl) (Ev.rfl' rfl) rfl rfl (by first | rfl | omega) hz | exact op_index (Ev.rfl' rfl) (Ev.rfl' rfl) rfl rfl (by first | rfl | omega) (by assumption)) ?_
    refine JL_1 rfl (by first | exact op_loadRefs (n := 3) (Ev.rfl' rfl) rfl rfl rfl (by rfl) | exact op_loadPtrs (n := 3) (Ev.rfl' rfl) (by repeat (first | exact List.Mem.head _ | apply List.Mem.tail)) (by rfl) (by rfl) (by rfl) (by rfl)) ?_
    (refine JL_n rfl (op_alloc rfl rfl) ?_; intro i7)
    refine JL_s0 (op_store (Ev.rfl' rfl) (Ev.rfl' rfl) (by first | exact cells_agg | exact cells_is rfl | exact cells_sl | exact cells_ref | exact cells_lit rfl) (by repeat (first | exact Repl.head _ _ _ | apply Repl.tail)) (by rfl) (by rfl) (by rfl)) ?_
    refine JL_nil ?_
    (repeat (first | with_reducible refine JC_seq ?_ | with_reducible refine JQ_then ?_ | with_reducible refine JC_block ?_ | with_reducible refine JC_skip ?_ | with_reducible refine JC_exit ?_ | with_reducible refine JQ_then_exit ?_ | with_reducible refine JQ_then_ret ?_ | with_reducible refine JQ_block ?_ | with_reducible refine JQ_block_ret ?_ | with_reducible refine JQ_hit ?_ | ((with_reducible refine JQ_block_miss ?_ ?_); (focus exact rfl)) | with_reducible refine JC_ret ?_ | with_reducible refine JQ_end ?_))
    (repeat (first | with_reducible refine JC_seq ?_ | with_reducible refine JQ_then ?_ | with_reducible refine JC_block ?_ | with_reducible refine JC_skip ?_ | with_reducible refine JC_exit ?_ | with_reducible refine JQ_then_exit ?_ | with_reducible refine JQ_then_ret ?_ | with_reducible refine JQ_block ?_ | with_reducible refine JQ_block_ret ?_ | with_reducible refine JQ_hit ?_ | ((with_reducible refine JQ_block_miss ?_ ?_); (focus exact rfl)) | with_reducible refine JC_ret ?_ | with_reducible refine JQ_end ?_))
    refine JC_region ?_
    refine JL_1 rfl (by first | exact op_fieldPtr (k := 1) (Ev.rfl' rfl) rfl rfl rfl rfl | exact op_fieldRef (k := 1) (Ev.rfl' rfl) rfl rfl rfl rfl) ?_
    refine JL_1 rfl (by first | exact op_loadRef (Ev.rfl' rfl) rfl rfl rfl | exact op_loadPtr (Ev.rfl' rfl) (by repeat (first | exact List.Mem.head _ | apply List.Mem.tail)) (by rfl) (by rfl) (by rfl)) ?_
    refine JL_1 rfl (op_conv (Ev.rfl' rfl) rfl rfl (by first | with_reducible exact to_u64_64 _ | with_reducible exact to_u32_32 _ | with_reducible exact to_u8_8 _ | with_reducible exact to_u64_8 _ | with_reducible exact to_u64_32 _ | with_reducible exact to_u8_64 _ | with_reducible exact to_u32_64 _ | with_reducible exact to_i64_8 _ | with_reducible exact to_i64_32 _ | exact wI64 (by omega) | exact wU64 (by omega) | exact wU32 (by omega) | with_reducible exact to_i64_64 _ | rfl)) ?_
    refine JL_1 rfl (by first | exact op_shlU (k := _) (by first | exact Ev.rfl' rfl | exact Ev.sub rfl (SubL.eq (congrArg Is (u64lit (by first | decide | omega))))) (Ev.rfl' rfl) (by first | omega | exact UV_nonneg _) (by first | rfl | assumption | omega) | exact op_shl (Ev.rfl' rfl) (Ev.rfl' rfl) (by first | omega | exact UV_nonneg _) rfl) ?_
    refine JL_1 rfl (by first | exact op_bits (by first | exact Ev.rfl' rfl | exact Ev.sub rfl (SubL.eq (congrArg Is (u64lit (by first | decide | omega))))) (by first | exact Ev.rfl' rfl | exact Ev.sub rfl (SubL.eq (congrArg Is (u64lit (by first | decide | omega))))) (by simp) (or_u64 _ _) | exact op_bits (Ev.rfl' rfl) (Ev.rfl' rfl) (by simp) rfl) ?_
    refine JL_1 rfl (op_assign rfl) ?_
    refine JL_nil ?_
    (repeat (first | with_reducible refine JC_seq ?_ | with_reducible refine JQ_then ?_ | with_reducible refine JC_block ?_ | with_reducible refine JC_skip ?_ | with_reducible refine JC_exit ?_ | with_reducible refine JQ_then_exit ?_ | with_reducible refine JQ_then_ret ?_ | with_reducible refine JQ_block ?_ | with_reducible refine JQ_block_ret ?_ | with_reducible refine JQ_hit ?_ | ((with_reducible refine JQ_block_miss ?_ ?_); (focus exact rfl)) | with_reducible refine JC_ret ?_ | with_reducible refine JQ_end ?_))
    (repeat (first | with_reducible refine JC_seq ?_ | with_reducible refine JQ_then ?_ | with_reducible refine JC_block ?_ | with_reducible refine JC_skip ?_ | with_reducible refine JC_exit ?_ | with_reducible refine JQ_then_exit ?_ | with_reducible refine JQ_then_ret ?_ | with_reducible refine JQ_block ?_ | with_reducible refine JQ_block_ret ?_ | with_reducible refine JQ_hit ?_ | ((with_reducible refine JQ_block_miss ?_ ?_); (focus exact rfl)) | with_reducible refine JC_ret ?_ | with_reducible refine JQ_end ?_))
    refine JC_region ?_
    refine JL_1 rfl (by first | exact op_fieldPtr (k := 2) (Ev.rfl' rfl) rfl rfl rfl rfl | exact op_fieldRef (k := 2) (Ev.rfl' rfl) rfl rfl rfl rfl) ?_
    refine JL_1 rfl (by first | exact op_loadRef (Ev.rfl' rfl) rfl rfl rfl | exact op_loadPtr (Ev.rfl' rfl) (by repeat (first | exact List.Mem.head _ | apply List.Mem.tail)) (by rfl) (by rfl) (by rfl)) ?_
    refine JL_nil ?_
    (repeat (first | with_reducible refine JC_seq ?_ | with_reducible refine JQ_then ?_ | with_reducible refine JC_block ?_ | with_reducible refine JC_skip ?_ | with_reducible refine JC_exit ?_ | with_reducible refine JQ_then_exit ?_ | with_reducible refine JQ_then_ret ?_ | with_reducible refine JQ_block ?_ | with_reducible refine JQ_block_ret ?_ | with_reducible refine JQ_hit ?_ | ((with_reducible refine JQ_block_miss ?_ ?_); (focus exact rfl)) | with_reducible refine JC_ret ?_ | with_reducible refine JQ_end ?_))
    refine JC_cutT (fun _ : Unit => True) (fun _ => [(5, Is (.int .u64 (UV ((ms.take k).foldl stepV 549755813888#64)))), (1, Is (.pointer (some ⟨i1, 0, none⟩))), (6, Is (.int .i64 (k : Nat))), (7, Is (.pointer (some ⟨i7, 0, none⟩))), (8, Is (.int .u64 (UV (bitsM m))))])
      (fun _ => [blk i7 45 (tMb.cells m), blk i1 28 [Is (.int .i64 num), IsSl tMb ms]]) ?_ ?_
    · rintro _ _
      (repeat (first | with_reducible refine JC_seq ?_ | with_reducible refine JQ_then ?_ | with_reducible refine JC_block ?_ | with_reducible refine JC_skip ?_ | with_reducible refine JC_exit ?_ | with_reducible refine JQ_then_exit ?_ | with_reducible refine JQ_then_ret ?_ | with_reducible refine JQ_block ?_ | with_reducible refine JQ_block_ret ?_ | with_reducible refine JQ_hit ?_ | ((with_reducible refine JQ_block_miss ?_ ?_); (focus exact rfl)) | with_reducible refine JC_ret ?_ | with_reducible refine JQ_end ?_))
      refine JC_region ?_
      refine JL_1 rfl (op_move rfl) ?_
      refine JL_1 rfl (op_move rfl) ?_
      refine JL_1 rfl (by first | exact op_fieldPtr (k := 0) (Ev.rfl' rfl) rfl rfl rfl rfl | exact op_fieldRef (k := 0) (Ev.rfl' rfl) rfl rfl rfl rfl) ?_
      refine JL_1 rfl (by first | exact op_loadRef (Ev.rfl' rfl) rfl rfl rfl | exact op_loadPtr (Ev.rfl' rfl) (by repeat (first | exact List.Mem.head _ | apply List.Mem.tail)) (by rfl) (by rfl) (by rfl)) ?_
      refine JL_1 rfl (op_mul (Ev.rfl' rfl) (Ev.rfl' rfl) (by first | exact wI64 (by omega) | exact wU64 (by omega) | exact wU32 (by omega) | rfl)) ?_
      refine JL_1 rfl (op_conv (Ev.rfl' rfl) rfl rfl (by first | with_reducible exact to_u64_64 _ | with_reducible exact to_u32_32 _ | with_reducible exact to_u8_8 _ | with_reducible exact to_u64_8 _ | with_reducible exact to_u64_32 _ | with_reducible exact to_u8_64 _ | with_reducible exact to_u32_64 _ | with_reducible exact to_i64_8 _ | with_reducible exact to_i64_32 _ | exact wI64 (by omega) | exact wU64 (by omega) | exact wU32 (by omega) | with_reducible exact to_i64_64 _ | rfl)) ?_
      refine JL_1 rfl (by first | exact op_shlU (k := (7 * m.n).toNat) (by first | exact Ev.rfl' rfl | exact Ev.sub rfl (SubL.eq (congrArg Is (u64lit (by first | decide | omega))))) (Ev.rfl' rfl) (by first | omega | exact UV_nonneg _) (by first | rfl | assumption | omega) | exact op_shl (Ev.rfl' rfl) (Ev.rfl' rfl) (by first | omega | exact UV_nonneg _) rfl) ?_
      refine JL_1 rfl (by first | exact op_bits (by first | exact Ev.rfl' rfl | exact Ev.sub rfl (SubL.eq (congrArg Is (u64lit (by first | decide | omega))))) (by first | exact Ev.rfl' rfl | exact Ev.sub rfl (SubL.eq (congrArg Is (u64lit (by first | decide | omega))))) (by simp) (or_u64 _ _) | exact op_bits (Ev.rfl' rfl) (Ev.rfl' rfl) (by simp) rfl) ?_
      refine JL_1 rfl (op_assign rfl) ?_
      refine JL_nil ?_
      (repeat (first | with_reducible refine JC_seq ?_ | with_reducible refine JQ_then ?_ | with_reducible refine JC_block ?_ | with_reducible refine JC_skip ?_ | with_reducible refine JC_exit ?_ | with_reducible refine JQ_then_exit ?_ | with_reducible refine JQ_then_ret ?_ | with_reducible refine JQ_block ?_ | with_reducible refine JQ_block_ret ?_ | with_reducible refine JQ_hit ?_ | ((with_reducible refine JQ_block_miss ?_ ?_); (focus exact rfl)) | with_reducible refine JC_ret ?_ | with_reducible refine JQ_end ?_))
      refine JC_set 5 (Is (.int .u64 (UV ((ms.take (k + 1)).foldl stepV 549755813888#64)))) rfl (SubL.eq (by rw [hf]; rfl)) ?_
      (repeat (first | with_reducible refine JC_seq ?_ | with_reducible refine JQ_then ?_ | with_reducible refine JC_block ?_ | with_reducible refine JC_skip ?_ | with_reducible refine JC_exit ?_ | with_reducible refine JQ_then_exit ?_ | with_reducible refine JQ_then_ret ?_ | with_reducible refine JQ_block ?_ | with_reducible refine JQ_block_ret ?_ | with_reducible refine JQ_hit ?_ | ((with_reducible refine JQ_block_miss ?_ ?_); (focus exact rfl)) | with_reducible refine JC_ret ?_ | with_reducible refine JQ_end ?_))
      refine JC_region ?_
      refine JL_1 rfl (op_move rfl) ?_
      refine JL_1 rfl (op_add (Ev.rfl' rfl) (Ev.rfl' rfl) (by first | exact wI64 (by omega) | exact wU64 (by omega) | exact wU32 (by omega) | rfl)) ?_
      refine JL_1 rfl (op_assign rfl) ?_
      refine JL_nil ?_
      (repeat (first | with_reducible refine JC_seq ?_ | with_reducible refine JQ_then ?_ | with_reducible refine JC_block ?_ | with_reducible refine JC_skip ?_ | with_reducible refine JC_exit ?_ | with_reducible refine JQ_then_exit ?_ | with_reducible refine JQ_then_ret ?_ | with_reducible refine JQ_block ?_ | with_reducible refine JQ_block_ret ?_ | with_reducible refine JQ_hit ?_ | ((with_reducible refine JQ_block_miss ?_ ?_); (focus exact rfl)) | with_reducible refine JC_ret ?_ | with_reducible refine JQ_end ?_))
      exact JQ_roundP (k + 1) (by omega) (by omega) (by (repeat (refine ⟨⟨_, rfl, (by (repeat' (first | exact SubL.rfl' | exact SubL.nil | exact SubL.top | exact trivial | refine SubL.agg ?_ | refine SubL.tup ?_ | exact SubL.fact (by repeat (first | exact List.Mem.head _ | apply List.Mem.tail)) | refine SubL.row (by rfl) (by rfl) ?_ | refine SubL.lit rfl ?_ | refine SubL.iteT (by first | assumption | (simp; done) | (simp_all; done)) ?_ | refine ⟨?_, ?_⟩)))⟩, ?_⟩)); exact trivial) (by repeat (first | exact SubP.nil _ | refine SubP.cons (by repeat (first | exact Drop1.here _ _ | apply Drop1.next)) ?_))
    · refine JC_cond (Ev.rfl' rfl) (fun h => ?_) (fun h => ?_)
      · have e1 : bitsM m = (1#64 ||| BitVec.ofInt 64 m.b <<< 2) ||| 2#64 := by unfold bitsM; rw [h]; rfl
        rw [e1]
        (repeat (first | with_reducible refine JC_seq ?_ | with_reducible refine JQ_then ?_ | with_reducible refine JC_block ?_ | with_reducible refine JC_skip ?_ | with_reducible refine JC_exit ?_ | with_reducible refine JQ_then_exit ?_ | with_reducible refine JQ_then_ret ?_ | with_reducible refine JQ_block ?_ | with_reducible refine JQ_block_ret ?_ | with_reducible refine JQ_hit ?_ | ((with_reducible refine JQ_block_miss ?_ ?_); (focus exact rfl)) | with_reducible refine JC_ret ?_ | with_reducible refine JQ_end ?_))
        refine JC_region ?_
        refine JL_1 rfl (op_move rfl) ?_
        refine JL_1 rfl (by first | exact op_bits (by first | exact Ev.rfl' rfl | exact Ev.sub rfl (SubL.eq (congrArg Is (u64lit (by first | decide | omega))))) (by first | exact Ev.rfl' rfl | exact Ev.sub rfl (SubL.eq (congrArg Is (u64lit (by first | decide | omega))))) (by simp) (or_u64 _ _) | exact op_bits (Ev.rfl' rfl) (Ev.rfl' rfl) (by simp) rfl) ?_
        refine JL_1 rfl (op_assign rfl) ?_
        refine JL_nil ?_
        (repeat (first | with_reducible refine JC_seq ?_ | with_reducible refine JQ_then ?_ | with_reducible refine JC_block ?_ | with_reducible refine JC_skip ?_ | with_reducible refine JC_exit ?_ | with_reducible refine JQ_then_exit ?_ | with_reducible refine JQ_then_ret ?_ | with_reducible refine JQ_block ?_ | with_reducible refine JQ_block_ret ?_ | with_reducible refine JQ_hit ?_ | ((with_reducible refine JQ_block_miss ?_ ?_); (focus exact rfl)) | with_reducible refine JC_ret ?_ | with_reducible refine JQ_end ?_))
        exact JQ_meetP () trivial (by (repeat (refine ⟨⟨_, rfl, (by (repeat' (first | exact SubL.rfl' | exact SubL.nil | exact SubL.top | exact trivial | refine SubL.agg ?_ | refine SubL.tup ?_ | exact SubL.fact (by repeat (first | exact List.Mem.head _ | apply List.Mem.tail)) | refine SubL.row (by rfl) (by rfl) ?_ | refine SubL.lit rfl ?_ | refine SubL.iteT (by first | assumption | (simp; done) | (simp_all; done)) ?_ | refine ⟨?_, ?_⟩)))⟩, ?_⟩)); exact trivial) (by repeat (first | exact SubP.nil _ | refine SubP.cons (by repeat (first | exact Drop1.here _ _ | apply Drop1.next)) ?_))
      · have e1 : bitsM m = 1#64 ||| BitVec.ofInt 64 m.b <<< 2 := by unfold bitsM; rw [h]; rfl
        rw [e1]
        (repeat (first | with_reducible refine JC_seq ?_ | with_reducible refine JQ_then ?_ | with_reducible refine JC_block ?_ | with_reducible refine JC_skip ?_ | with_reducible refine JC_exit ?_ | with_reducible refine JQ_then_exit ?_ | with_reducible refine JQ_then_ret ?_ | with_reducible refine JQ_block ?_ | with_reducible refine JQ_block_ret ?_ | with_reducible refine JQ_hit ?_ | ((with_reducible refine JQ_block_miss ?_ ?_); (focus exact rfl)) | with_reducible refine JC_ret ?_ | with_reducible refine JQ_end ?_))
        exact JQ_meetP () trivial (by (repeat (refine ⟨⟨_, rfl, (by (repeat' (first | exact SubL.rfl' | exact SubL.nil | exact SubL.top | exact trivial | refine SubL.agg ?_ | refine SubL.tup ?_ | exact SubL.fact (by repeat (first | exact List.Mem.head _ | apply List.Mem.tail)) | refine SubL.row (by rfl) (by rfl) ?_ | refine SubL.lit rfl ?_ | refine SubL.iteT (by first | assumption | (simp; done) | (simp_all; done)) ?_ | refine ⟨?_, ?_⟩)))⟩, ?_⟩)); exact trivial) (by repeat (first | exact SubP.nil _ | refine SubP.cons (by repeat (first | exact Drop1.here _ _ | apply Drop1.next)) ?_))
  have e1 : k = ms.length := by have := of_decide_eq_false h; omega
  subst e1
  rw [List.take_length]
  clear h
  (repeat (first | with_reducible refine JC_seq ?_ | with_reducible refine JQ_then ?_ | with_reducible refine JC_block ?_ | with_reducible refine JC_skip ?_ | with_reducible refine JC_exit ?_ | with_reducible refine JQ_then_exit ?_ | with_reducible refine JQ_then_ret ?_ | with_reducible refine JQ_block ?_ | with_reducible refine JQ_block_ret ?_ | with_reducible refine JQ_hit ?_ | ((with_reducible refine JQ_block_miss ?_ ?_); (focus exact rfl)) | with_reducible refine JC_ret ?_ | with_reducible refine JQ_end ?_))
  refine JC_region ?_
  refine JL_1 rfl (op_move rfl) ?_
  refine JL_1 rfl (op_assign rfl) ?_
  refine JL_1 rfl (op_assign rfl) ?_
  refine JL_nil ?_
  (repeat (first | with_reducible refine JC_seq ?_ | with_reducible refine JQ_then ?_ | with_reducible refine JC_block ?_ | with_reducible refine JC_skip ?_ | with_reducible refine JC_exit ?_ | with_reducible refine JQ_then_exit ?_ | with_reducible refine JQ_then_ret ?_ | with_reducible refine JQ_block ?_ | with_reducible refine JQ_block_ret ?_ | with_reducible refine JQ_hit ?_ | ((with_reducible refine JQ_block_miss ?_ ?_); (focus exact rfl)) | with_reducible refine JC_ret ?_ | with_reducible refine JQ_end ?_))
  exact JQ_ret (Bs := [Is (.int .u64 (UV (wordV ms))), Is (.int .i64 0)]) Try.results12 ⟨⟨_, rfl, (by (repeat' (first | exact SubL.rfl' | exact SubL.nil | exact SubL.top | exact trivial | refine SubL.agg ?_ | refine SubL.tup ?_ | exact SubL.fact (by repeat (first | exact List.Mem.head _ | apply List.Mem.tail)) | refine SubL.row (by rfl) (by rfl) ?_ | refine SubL.lit rfl ?_ | refine SubL.iteT (by first | assumption | (simp; done) | (simp_all; done)) ?_ | refine ⟨?_, ?_⟩)))⟩, ⟨⟨_, rfl, (by (repeat' (first | exact SubL.rfl' | exact SubL.nil | exact SubL.top | exact trivial | refine SubL.agg ?_ | refine SubL.tup ?_ | exact SubL.fact (by repeat (first | exact List.Mem.head _ | apply List.Mem.tail)) | refine SubL.row (by rfl) (by rfl) ?_ | refine SubL.lit rfl ?_ | refine SubL.iteT (by first | assumption | (simp; done) | (simp_all; done)) ?_ | refine ⟨?_, ?_⟩)))⟩, trivial⟩⟩ () SubL.rfl' (List.nil_sublist _)
end Go.Proofs.Ythppeaelfcmafaa
