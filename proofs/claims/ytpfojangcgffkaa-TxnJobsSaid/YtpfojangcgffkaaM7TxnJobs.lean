/- Texts of this claim, laid together (part 7): walks of functions, what they compute, and plain laws of it. Own work. -/
import Derived.Test.YtpfojangcgffkaaM6TxnJobs
/- The law TxnJobs: its walk. Own work. -/
namespace Go.Proofs.Ytpfojangcgffkaa
open Go.RowKit
set_option linter.unusedVariables false
set_option linter.unusedSimpArgs false
set_option maxRecDepth 100000
-- bodegalaw28.TxnJobs: function 12
set_option maxHeartbeats 4000000 in
theorem TxnJobs_ok (ops : List Oq) (number mask client seq : Int) : FnP Try.prog 12 [IsSl tOp ops, Is (.int .i64 number), Is (.int .i64 mask), Is (.int .i64 client), Is (.int .i64 seq)] (Is (.bool true)) := by
  refine FnP.enter Try.func12 Try.ntmps12 rfl rfl ?_
  intro c hX
  refine JC_len (t := 0) rfl (fun hlen => ?_)
  refine JC_seq ?_
  refine JC_region ?_
  refine JL_1 rfl (op_assign rfl) ?_
  refine JL_nil ?_
  refine JQ_then (JC_seq (JC_seq ?_))
  refine JC_region ?_
  refine JL_1 rfl (op_move rfl) ?_
  refine JL_1 rfl (by first | exact op_len (Ev.rfl' rfl) rfl | exact op_lenLit (Ev.rfl' rfl) rfl) ?_
  refine JL_1 rfl (op_gtr (Ev.rfl' rfl) (Ev.rfl' rfl)) ?_
  refine JL_nil ?_
  refine JQ_then ?_
  refine JC_cond (Ev.rfl' rfl) (fun h1 => ?_) (fun h1 => ?_)
  · refine JC_seq ?_
    refine JC_region ?_
    refine JL_1 rfl (op_assign rfl) ?_
    refine JL_nil ?_
    refine JQ_then (JC_ret (JQ_then_ret ?_))
    refine JQ_ret1 Try.results12 rfl () (SubL.eq ?_) (List.nil_sublist _)
    rfl
  have hops : ops.length ≤ 20 := by have := of_decide_eq_false h1; omega
  clear h1
  refine JC_skip (JQ_then (JC_seq ?_))
  refine JC_region ?_
  refine JL_1 rfl (op_move rfl) ?_
  refine JL_1 rfl (by first | ((refine op_call Try.call14 (PickH_ok _ _ ?_ ?_) ⟨evS, ⟨evS, trivial⟩⟩); all_goals (first | omega))) ?_
  refine JL_1 rfl (op_move rfl) ?_
  refine JL_1 rfl (by first | ((refine op_call Try.call14 (PickH_ok _ _ ?_ ?_) ⟨evS, ⟨evS, trivial⟩⟩); all_goals (first | omega))) ?_
  refine JL_1 rfl (op_add (Ev.rfl' rfl) (Ev.rfl' rfl) wrapT) ?_
  refine JL_1 rfl (by first | ((refine op_call Try.call49 (TxNewY_ok (client % 6) (1 + seq % 1000) ?_) ⟨evS, ⟨evS, trivial⟩⟩); all_goals (first | omega))) ?_
  refine JL_1 rfl (op_move rfl) ?_
  refine JL_1 rfl (op_extract (Ev.rfl' rfl) rfl) ?_
  refine JL_1 rfl (op_extract (Ev.rfl' rfl) rfl) ?_
  (refine JL_n rfl (op_allocN rfl nrmT rfl) ?_; intro i11)
  refine JL_s0 (op_storeN (Ev.rfl' rfl) (Ev.rfl' rfl) cellsT replT nrmT (by rfl) (by rfl) (by rfl)) ?_
  refine JL_1 rfl (op_assign rfl) ?_
  refine JL_nil ?_
  refine JQ_then (JC_seq ?_)
  refine JC_region ?_
  refine JL_1 rfl (op_buildN (qs := []) rfl rfl rfl rfl trivial (by rfl) nrmT) ?_
  (refine JL_n rfl (op_box (Ev.rfl' rfl) cellsT) ?_; intro i41)
  refine JL_1 rfl (op_assign rfl) ?_
  refine JL_nil ?_
  refine JQ_then (JC_seq (JC_seq ?_))
  refine JC_blkSub (b := i41) (As := [Is (.slice none 0 0), Is (.slice none 0 0), Is (.slice none 0 0)]) (As' := moC (moT ⟨client % 6, 1 + seq % 1000, [], [], []⟩)) replT ⟨SubL.nil, SubL.nil, SubL.nil, trivial⟩ ?_
  refine JC_region ?_
  refine JL_1 rfl (op_assign rfl) ?_
  refine JL_nil ?_
  refine JQ_then (JC_block ?_)
  refine JC_loopP (fun z : Nat × Tx => z.1 ≤ ops.length ∧ TxB z.2 (15 * z.1) ∧ TxJ z.2 (client % 6)) (fun z => [(0, IsSl tOp ops), (1, Is (.int .i64 number)), (2, Is (.int .i64 mask)), (11, Is (.pointer (some ⟨i11, 0, none⟩))), (12, Is (.int .i64 0)), (13, Is (.pointer (some ⟨i41, 0, none⟩))), (14, Is (.int .i64 (z.1 : Nat)))]) (fun z => [blk i11 105 (txC z.2), blk i41 109 (moC (moT z.2))]) (fun z => ops.length - z.1) (0, ⟨client % 6, 1 + seq % 1000, [], [], []⟩) ⟨Nat.zero_le _, ⟨List.Pairwise.nil, Nat.zero_le _, Nat.zero_le _, Nat.zero_le _⟩, rfl, fun l hl => by cases hl⟩ esubT lessT ?_
  rintro ⟨k, x⟩ ⟨hk, hx, hj⟩
  dsimp only at hk hx hj ⊢
  refine JC_seq (JC_seq ?_)
  refine JC_region ?_
  refine JL_1 rfl (op_move rfl) ?_
  refine JL_1 rfl (op_move rfl) ?_
  refine JL_1 rfl (by first | exact op_len (Ev.rfl' rfl) rfl | exact op_lenLit (Ev.rfl' rfl) rfl) ?_
  refine JL_1 rfl (op_lss (Ev.rfl' rfl) (Ev.rfl' rfl)) ?_
  refine JL_1 rfl (op_move rfl) ?_
  (first | refine JL_i0 rfl rfl rfl (fun hg => (by have hg0 := hg; (try simp at hg); first | exact op_moveE (Ev.sub rfl (SubL.iteT (by first | assumption | (simp; done) | (simp; omega) | (simp_all; done)) SubL.rfl')) | exact op_moveE (Ev.rfl' rfl))) ?_ | refine JL_i rfl rfl rfl (fun hp hg => (by have hpg := Bool.and_eq_true_iff.2 ⟨hp, hg⟩; have hg0 := hg; (try simp at hg); first | exact op_moveE (Ev.sub rfl (SubL.iteT (by first | assumption | (simp; done) | (simp; omega) | (simp_all; done)) SubL.rfl')) | exact op_moveE (Ev.rfl' rfl))) ?_)
  (first | refine JL_i0 rfl rfl rfl (fun hg => (by have hg0 := hg; (try simp at hg); exact op_eql evG evG)) ?_ | refine JL_i rfl rfl rfl (fun hp hg => (by have hpg := Bool.and_eq_true_iff.2 ⟨hp, hg⟩; have hg0 := hg; (try simp at hg); exact op_eql evG evG)) ?_)
  refine JL_1 rfl (op_and (Ev.rfl' rfl) rfl (fun h => by first | exact SubL.rfl' | exact SubL.iteT (by first | (rw [h]; rfl) | (simp_all; done)) SubL.rfl')) ?_
  refine JL_nil ?_
  refine JQ_then ?_
  refine JC_cond (Ev.rfl' rfl) (fun h6 => ?_) (fun h6 => ?_)
  · have hlt : k < ops.length := by
      rw [Bool.and_eq_true] at h6
      have := of_decide_eq_true h6.1
      omega
    clear h6
    obtain ⟨o, hz⟩ : ∃ z, ops[k]? = some z := ⟨ops[k], List.getElem?_eq_getElem hlt⟩
    refine JC_skip (JQ_then (JC_seq (JC_block (JC_seq (JC_seq ?_)))))
    refine JC_region ?_
    refine JL_1 rfl (op_move rfl) ?_
    refine JL_1 rfl (op_move rfl) ?_
    refine JL_1 rfl (by first | exact op_index (j := _) (Ev.rfl' rfl) (Ev.rfl' rfl) rfl rfl (by first | rfl | omega) hz | exact op_index (j := _) (Ev.rfl' rfl) (Ev.rfl' rfl) rfl rfl (by first | rfl | omega) (by assumption)) ?_
    refine JL_1 rfl (by first | exact op_fieldPtr (k := 1) (Ev.rfl' rfl) rfl rfl rfl rfl | exact op_fieldRefN (k := 1) (Ev.rfl' rfl) rfl rfl rfl rfl nrmT) ?_
    refine JL_1 rfl (by first | exact op_loadRef (Ev.rfl' rfl) rfl rfl rfl | exact op_loadPtr (Ev.rfl' rfl) memT (by rfl) (by rfl) (by rfl)) ?_
    refine JL_1 rfl (by first | exact op_len (Ev.rfl' rfl) rfl | exact op_lenLit (Ev.rfl' rfl) rfl) ?_
    refine JL_1 rfl (op_gtr (Ev.rfl' rfl) (Ev.rfl' rfl)) ?_
    refine JL_nil ?_
    refine JQ_then ?_
    refine JC_cond (Ev.rfl' rfl) (fun h8 => ?_) (fun h8 => ?_)
    · refine JC_seq ?_
      refine JC_region ?_
      refine JL_1 rfl (op_assign rfl) ?_
      refine JL_nil ?_
      refine JQ_then (JC_ret (JQ_then_ret (JQ_block_ret (JQ_then_ret (JQ_then_ret (JQ_block_ret (JQ_then_ret ?_)))))))
      refine JQ_ret1 Try.results12 rfl () (SubL.eq ?_) (List.nil_sublist _)
      rfl
    have hl : o.lines.length ≤ 15 := by have := of_decide_eq_false h8; omega
    clear h8
    refine JC_skip (JQ_then (JC_seq ?_))
    refine JC_region ?_
    refine JL_1 rfl (op_move rfl) ?_
    refine JL_1 rfl (op_move rfl) ?_
    refine JL_1 rfl (by first | exact op_index (j := _) (Ev.rfl' rfl) (Ev.rfl' rfl) rfl rfl (by first | rfl | omega) hz | exact op_index (j := _) (Ev.rfl' rfl) (Ev.rfl' rfl) rfl rfl (by first | rfl | omega) (by assumption)) ?_
    refine JL_1 rfl (by first | exact op_loadRefsN (n := 3) (Ev.rfl' rfl) rfl rfl rfl (by rfl) nrmT | exact op_loadPtrsN (n := 3) (Ev.rfl' rfl) memT (by rfl) (by rfl) (by rfl) (by rfl) nrmT) ?_
    refine JL_1 rfl (op_move rfl) ?_
    refine JL_1 rfl (by first | ((refine op_call Try.call50 (pages2_ok o _ ?_) ⟨evS, ⟨evS, trivial⟩⟩); all_goals (first | omega))) ?_
    (refine JL_ex 64 rfl ?_; rintro ⟨ps, hps, hplo⟩)
    refine JL_1 rfl (op_assign rfl) ?_
    refine JL_nil ?_
    refine JQ_then (JC_seq ?_)
    refine JC_region ?_
    refine JL_1 rfl (op_move rfl) ?_
    refine JL_1 rfl (op_move rfl) ?_
    refine JL_1 rfl (by first | exact op_index (j := _) (Ev.rfl' rfl) (Ev.rfl' rfl) rfl rfl (by first | rfl | omega) hz | exact op_index (j := _) (Ev.rfl' rfl) (Ev.rfl' rfl) rfl rfl (by first | rfl | omega) (by assumption)) ?_
    refine JL_1 rfl (by first | exact op_fieldPtr (k := 0) (Ev.rfl' rfl) rfl rfl rfl rfl | exact op_fieldRefN (k := 0) (Ev.rfl' rfl) rfl rfl rfl rfl nrmT) ?_
    refine JL_1 rfl (by first | exact op_loadRef (Ev.rfl' rfl) rfl rfl rfl | exact op_loadPtr (Ev.rfl' rfl) memT (by rfl) (by rfl) (by rfl)) ?_
    refine JL_1 rfl (by first | ((refine op_call Try.call14 (PickH_ok _ _ ?_ ?_) ⟨evS, ⟨evS, trivial⟩⟩); all_goals (first | omega))) ?_
    refine JL_1 rfl (op_assign rfl) ?_
    refine JL_nil ?_
    refine JQ_then (JC_seq (JC_seq ?_))
    refine JC_region ?_
    refine JL_1 rfl (op_move rfl) ?_
    refine JL_1 rfl (op_move rfl) ?_
    refine JL_1 rfl (op_move rfl) ?_
    (refine JL_s rfl (by first | ((refine op_callT drop1T Try.call51 (step_ok i41 (moT x) (o.kind % 5) ps ?_ ?_ ?_ ?_) ⟨evS, ⟨evS, ⟨evS, trivial⟩⟩⟩); all_goals (first | have := hx.b; dsimp only; omega | have := hx.c; dsimp only; omega | have := hx.w; dsimp only; omega | omega))) ?_; intro i74)
    refine JL_1 rfl (op_neq (Ev.rfl' rfl) (Ev.rfl' rfl)) ?_
    refine JL_nil ?_
    refine JQ_then ?_
    obtain ⟨p1, p2, p3⟩ := play_step x (o.kind % 5) ps
    have pl := play_len hx (o.kind % 5) hps
    refine JC_cond (Ev.rfl' rfl) (fun h12 => ?_) (fun h12 => ?_)
    · have hne : (playV x (o.kind % 5) ps).2 ≠ 0 := by rw [p1]; simpa using h12
      rw [← p3 hne]
      clear h12 p1 p2 p3 pl
      refine JC_exit (JQ_then_exit (JQ_hit (JQ_then ?_)))
      refine JC_region ?_
      refine JL_1 rfl (op_move rfl) ?_
      refine JL_1 rfl (op_add (Ev.rfl' rfl) (Ev.rfl' rfl) wrapT) ?_
      refine JL_1 rfl (op_assign rfl) ?_
      refine JL_nil ?_
      first | (guard_hyp e22 : True; exact JQ_roundP (k + 1, { x with base := mergeV x.base ps }) ⟨by dsimp only; omega, pl.le (by dsimp only; omega), pj⟩ (by dsimp only; omega) esubT lessT) | (guard_hyp y : Tx; exact JQ_roundP (k + 1, y) ⟨by dsimp only; omega, pl.le (by dsimp only; omega), pj⟩ (by dsimp only; omega) esubT lessT) | exact JQ_roundP (k + 1, x) ⟨by dsimp only; omega, hx.le (by dsimp only; omega), hj⟩ (by dsimp only; omega) esubT lessT
    have hz0 : (playV x (o.kind % 5) ps).2 = 0 := by rw [p1]; simpa using h12
    rw [← p2 hz0]
    clear h12 p1 p2 p3
    have pj := play_job hj (o.kind % 5) hplo hz0
    obtain ⟨y, hy⟩ : ∃ y, (playV x (o.kind % 5) ps).1 = y := ⟨_, rfl⟩
    rw [hy] at pl pj
    rw [hy]
    refine JC_skip (JQ_then (JC_seq ?_))
    refine JC_region ?_
    refine JL_1 rfl (op_move rfl) ?_
    refine JL_nil ?_
    refine JQ_then (JC_block (JC_seq (JC_seq ?_)))
    refine JC_region ?_
    refine JL_1 rfl (op_eql (Ev.rfl' rfl) (Ev.rfl' rfl)) ?_
    refine JL_1 rfl (op_assign rfl) ?_
    refine JL_nil ?_
    refine JQ_then ?_
    refine JC_cutT (fun q : Bool => q = (decide (o.kind % 5 = 0) || decide (o.kind % 5 = 1))) (fun q => [(0, IsSl tOp ops), (1, Is (.int .i64 number)), (2, Is (.int .i64 mask)), (11, Is (.pointer (some ⟨i11, 0, none⟩))), (12, Is (.int .i64 0)), (13, Is (.pointer (some ⟨i41, 0, none⟩))), (14, Is (.int .i64 (k : Nat))), (15, IsSl tPg ps), (76, Is (.int .i64 (o.kind % 5))), (97, Is (.bool q))]) (fun _ => [blk i11 105 (txC x), blk i41 109 (moC (moT y))]) ?_ ?_
    rotate_left
    focus
      refine JC_cond (Ev.rfl' rfl) (fun h20 => ?_) (fun h20 => ?_)
      · refine JC_skip ?_
        exact JQ_meetP (o.kind % 5 == 0) (sw1 h20) esubT lessT
      refine JC_region ?_
      refine JL_1 rfl (op_eql (Ev.rfl' rfl) (Ev.rfl' rfl)) ?_
      refine JL_1 rfl (op_assign rfl) ?_
      refine JL_nil ?_
      exact JQ_meetP (o.kind % 5 == 1) (sw2 h20) esubT lessT
    rintro q hq
    refine JC_cond (Ev.rfl' rfl) (fun h20b => ?_) (fun h20b => ?_)
    · have e : playV x (o.kind % 5) ps = ({ x with base := mergeV x.base ps }, 0) := by unfold playV; rw [if_pos (hq ▸ h20b)]
      have ey : y = { x with base := mergeV x.base ps } := by rw [← hy, e]
      subst ey
      have e22 : True := trivial
      refine JC_region ?_
      refine JL_1 rfl (by first | exact op_loadRefsN (n := 5) (Ev.rfl' rfl) rfl rfl rfl (by rfl) nrmT | exact op_loadPtrsN (n := 5) (Ev.rfl' rfl) memT (by rfl) (by rfl) (by rfl) (by rfl) nrmT) ?_
      refine JL_1 rfl (op_move rfl) ?_
      refine JL_1 rfl (by first | ((refine op_call Try.call52 (TxLoad_ok x ps ?_ ?_ ?_ ?_) ⟨evS, ⟨evS, trivial⟩⟩); all_goals (first | have := hx.b; omega | have := hx.c; omega | have := hx.w; omega | omega))) ?_
      refine JL_s0 (op_storeN (Ev.rfl' rfl) (Ev.rfl' rfl) cellsT replT nrmT (by rfl) (by rfl) (by rfl)) ?_
      refine JL_nil ?_
      refine JQ_block (JQ_block (JQ_then ?_))
      refine JC_region ?_
      refine JL_1 rfl (op_move rfl) ?_
      refine JL_1 rfl (op_add (Ev.rfl' rfl) (Ev.rfl' rfl) wrapT) ?_
      refine JL_1 rfl (op_assign rfl) ?_
      refine JL_nil ?_
      first | (guard_hyp e22 : True; exact JQ_roundP (k + 1, { x with base := mergeV x.base ps }) ⟨by dsimp only; omega, pl.le (by dsimp only; omega), pj⟩ (by dsimp only; omega) esubT lessT) | (guard_hyp y : Tx; exact JQ_roundP (k + 1, y) ⟨by dsimp only; omega, pl.le (by dsimp only; omega), pj⟩ (by dsimp only; omega) esubT lessT) | exact JQ_roundP (k + 1, x) ⟨by dsimp only; omega, hx.le (by dsimp only; omega), hj⟩ (by dsimp only; omega) esubT lessT
    have g1 : ¬ (decide (o.kind % 5 = 0) || decide (o.kind % 5 = 1)) = true := by rw [← hq, h20b]; simp
    clear h20b
    refine JC_seq (JC_seq ?_)
    refine JC_region ?_
    refine JL_1 rfl (op_eql (Ev.rfl' rfl) (Ev.rfl' rfl)) ?_
    refine JL_1 rfl (op_assign rfl) ?_
    refine JL_nil ?_
    refine JQ_then ?_
    refine JC_cutT (fun q : Bool => q = (decide (o.kind % 5 = 2) || decide (o.kind % 5 = 3))) (fun q => [(0, IsSl tOp ops), (1, Is (.int .i64 number)), (2, Is (.int .i64 mask)), (11, Is (.pointer (some ⟨i11, 0, none⟩))), (12, Is (.int .i64 0)), (13, Is (.pointer (some ⟨i41, 0, none⟩))), (14, Is (.int .i64 (k : Nat))), (15, IsSl tPg ps), (76, Is (.int .i64 (o.kind % 5))), (103, Is (.bool q))]) (fun _ => [blk i11 105 (txC x), blk i41 109 (moC (moT y))]) ?_ ?_
    rotate_left
    focus
      refine JC_cond (Ev.rfl' rfl) (fun h23 => ?_) (fun h23 => ?_)
      · refine JC_skip ?_
        exact JQ_meetP (o.kind % 5 == 2) (sw1 h23) esubT lessT
      refine JC_region ?_
      refine JL_1 rfl (op_eql (Ev.rfl' rfl) (Ev.rfl' rfl)) ?_
      refine JL_1 rfl (op_assign rfl) ?_
      refine JL_nil ?_
      exact JQ_meetP (o.kind % 5 == 3) (sw2 h23) esubT lessT
    rintro q2 hq2
    refine JC_cond (Ev.rfl' rfl) (fun h23b => ?_) (fun h23b => ?_)
    · have e : playV x (o.kind % 5) ps = putV x ps := by unfold playV; rw [if_neg g1, if_pos (hq2 ▸ h23b)]
      have e0 : (putV x ps).2 = 0 := by rw [← e]; exact hz0
      have ey : (putV x ps).1 = y := by rw [← e]; exact hy
      refine JC_region ?_
      refine JL_1 rfl (by first | exact op_loadRefsN (n := 5) (Ev.rfl' rfl) rfl rfl rfl (by rfl) nrmT | exact op_loadPtrsN (n := 5) (Ev.rfl' rfl) memT (by rfl) (by rfl) (by rfl) (by rfl) nrmT) ?_
      refine JL_1 rfl (op_move rfl) ?_
      refine JL_1 rfl (by first | ((refine op_call Try.call53 (Put_ok x ps ?_ ?_ ?_ ?_) ⟨evS, ⟨evS, trivial⟩⟩); all_goals (first | have := hx.b; omega | have := hx.c; omega | have := hx.w; omega | omega))) ?_
      refine JL_1 rfl (op_move rfl) ?_
      refine JL_1 rfl (op_extract (Ev.rfl' rfl) rfl) ?_
      refine JL_1 rfl (op_extract (Ev.rfl' rfl) rfl) ?_
      refine JL_s0 (op_storeN (Ev.rfl' rfl) (Ev.rfl' rfl) cellsT replT nrmT (by rfl) (by rfl) (by rfl)) ?_
      refine JL_1 rfl (op_assign rfl) ?_
      refine JL_nil ?_
      refine JQ_block (JQ_block (JQ_then ?_))
      rw [e0, ey]
      refine JC_region ?_
      refine JL_1 rfl (op_move rfl) ?_
      refine JL_1 rfl (op_add (Ev.rfl' rfl) (Ev.rfl' rfl) wrapT) ?_
      refine JL_1 rfl (op_assign rfl) ?_
      refine JL_nil ?_
      first | (guard_hyp e22 : True; exact JQ_roundP (k + 1, { x with base := mergeV x.base ps }) ⟨by dsimp only; omega, pl.le (by dsimp only; omega), pj⟩ (by dsimp only; omega) esubT lessT) | (guard_hyp y : Tx; exact JQ_roundP (k + 1, y) ⟨by dsimp only; omega, pl.le (by dsimp only; omega), pj⟩ (by dsimp only; omega) esubT lessT) | exact JQ_roundP (k + 1, x) ⟨by dsimp only; omega, hx.le (by dsimp only; omega), hj⟩ (by dsimp only; omega) esubT lessT
    have e : playV x (o.kind % 5) ps = relV x (ps.map Pg.l) := by unfold playV; rw [if_neg g1, if_neg (by rw [← hq2, h23b]; simp)]
    clear h23b
    have e0 : (relV x (ps.map Pg.l)).2 = 0 := by rw [← e]; exact hz0
    have ey : (relV x (ps.map Pg.l)).1 = y := by rw [← e]; exact hy
    refine JC_seq ?_
    refine JC_region ?_
    refine JL_1 rfl (op_assign rfl) ?_
    refine JL_nil ?_
    refine JQ_then (JC_seq (JC_seq ?_))
    refine JC_buf0 3 tI64 ?_
    refine JC_region ?_
    refine JL_1 rfl (op_assign rfl) ?_
    refine JL_nil ?_
    refine JQ_then (JC_block ?_)
    refine JC_loopP (fun z : Nat × (Option Addr × Nat) => z.1 ≤ ps.length) (fun z => [(0, IsSl tOp ops), (1, Is (.int .i64 number)), (2, Is (.int .i64 mask)), (11, Is (.pointer (some ⟨i11, 0, none⟩))), (12, Is (.int .i64 0)), (13, Is (.pointer (some ⟨i41, 0, none⟩))), (14, Is (.int .i64 (k : Nat))), (15, IsSl tPg ps), (17, Is (slV ((ps.take z.1).map Pg.l).length z.2)), (18, Is (.int .i64 (z.1 : Nat)))]) (fun z => buf (slV ((ps.take z.1).map Pg.l).length z.2) 3 tI64 ((ps.take z.1).map Pg.l) :: [blk i11 105 (txC x), blk i41 109 (moC (moT y))]) (fun z => ps.length - z.1) (0, (none, 0)) (Nat.zero_le _) esubT lessT ?_
    rintro ⟨j, s⟩ hj2
    dsimp only at hj2 ⊢
    have hml : ((ps.take j).map Pg.l).length ≤ 15 := by simp; omega
    refine JC_seq (JC_seq ?_)
    refine JC_region ?_
    refine JL_1 rfl (op_move rfl) ?_
    refine JL_1 rfl (op_move rfl) ?_
    refine JL_1 rfl (by first | exact op_len (Ev.rfl' rfl) rfl | exact op_lenLit (Ev.rfl' rfl) rfl) ?_
    refine JL_1 rfl (op_lss (Ev.rfl' rfl) (Ev.rfl' rfl)) ?_
    refine JL_nil ?_
    refine JQ_then ?_
    refine JC_cond (Ev.rfl' rfl) (fun h16 => ?_) (fun h16 => ?_)
    · have hlj : j < ps.length := by have := of_decide_eq_true h16; omega
      clear h16
      obtain ⟨p, hp⟩ : ∃ z, ps[j]? = some z := ⟨ps[j], List.getElem?_eq_getElem hlj⟩
      have hmt := map_takeL hp
      refine JC_skip (JQ_then (JC_seq (JC_block ?_)))
      refine JC_region ?_
      refine JL_1 rfl (op_move rfl) ?_
      refine JL_1 rfl (op_move rfl) ?_
      refine JL_1 rfl (op_move rfl) ?_
      refine JL_1 rfl (by first | exact op_index (j := _) (Ev.rfl' rfl) (Ev.rfl' rfl) rfl rfl (by first | rfl | omega) hp | exact op_index (j := _) (Ev.rfl' rfl) (Ev.rfl' rfl) rfl rfl (by first | rfl | omega) (by assumption)) ?_
      refine JL_1 rfl (by first | exact op_fieldPtr (k := 0) (Ev.rfl' rfl) rfl rfl rfl rfl | exact op_fieldRefN (k := 0) (Ev.rfl' rfl) rfl rfl rfl rfl nrmT) ?_
      refine JL_1 rfl (by first | exact op_loadRef (Ev.rfl' rfl) rfl rfl rfl | exact op_loadPtr (Ev.rfl' rfl) memT (by rfl) (by rfl) (by rfl)) ?_
      refine JL_1 rfl (op_buildSlice (size := 1) (qs := [(0, _)]) rfl rfl rfl ⟨⟨rfl, _, (Ev.rfl' rfl), cellsT⟩, trivial⟩ (by rfl) (by rfl)) ?_
      (refine JL_s rfl (op_app (Ev.rfl' rfl) (fun _ => replT) (by first | exact Ev.rfl' rfl | exact Ev.sub rfl (by first | exact SubL.row (xs := [p.l]) (by rfl) (by rfl) subsT | exact subT)) (by exact appT rfl rfl rfl) lenT) ?_; intro i90)
      refine JL_1 rfl (op_assign rfl) ?_
      refine JL_nil ?_
      refine JQ_block (JQ_then ?_)
      refine JC_region ?_
      refine JL_1 rfl (op_move rfl) ?_
      refine JL_1 rfl (op_add (Ev.rfl' rfl) (Ev.rfl' rfl) wrapT) ?_
      refine JL_1 rfl (op_assign rfl) ?_
      refine JL_nil ?_
      rw [← hmt]
      exact JQ_roundP (j + 1, i90) (by dsimp only; omega) (by dsimp only; omega) esubT lessT
    have hje : j = ps.length := by have := of_decide_eq_false h16; omega
    subst hje
    clear h16
    rw [List.take_length]
    refine JC_freeze hX (v := slV (ps.map Pg.l).length s) replT ?_
    refine JC_exit (JQ_then_exit (JQ_then_exit (JQ_hit (JQ_then ?_))))
    refine JC_region ?_
    refine JL_1 rfl (by first | exact op_loadRefsN (n := 5) (Ev.rfl' rfl) rfl rfl rfl (by rfl) nrmT | exact op_loadPtrsN (n := 5) (Ev.rfl' rfl) memT (by rfl) (by rfl) (by rfl) (by rfl) nrmT) ?_
    refine JL_1 rfl (op_move rfl) ?_
    refine JL_1 rfl (by first | ((refine op_call Try.call54 (RelyB_ok x (ps.map Pg.l) ?_ ?_ ?_ ?_ hx.asc) ⟨evS, ⟨evS, trivial⟩⟩); all_goals (first | have := hx.b; omega | have := hx.c; omega | have := hx.w; omega | simp; omega))) ?_
    refine JL_1 rfl (op_move rfl) ?_
    refine JL_1 rfl (op_extract (Ev.rfl' rfl) rfl) ?_
    refine JL_1 rfl (op_extract (Ev.rfl' rfl) rfl) ?_
    refine JL_s0 (op_storeN (Ev.rfl' rfl) (Ev.rfl' rfl) cellsT replT nrmT (by rfl) (by rfl) (by rfl)) ?_
    refine JL_1 rfl (op_assign rfl) ?_
    refine JL_nil ?_
    refine JQ_block (JQ_block (JQ_then ?_))
    rw [e0, ey]
    refine JC_region ?_
    refine JL_1 rfl (op_move rfl) ?_
    refine JL_1 rfl (op_add (Ev.rfl' rfl) (Ev.rfl' rfl) wrapT) ?_
    refine JL_1 rfl (op_assign rfl) ?_
    refine JL_nil ?_
    first | (guard_hyp e22 : True; exact JQ_roundP (k + 1, { x with base := mergeV x.base ps }) ⟨by dsimp only; omega, pl.le (by dsimp only; omega), pj⟩ (by dsimp only; omega) esubT lessT) | (guard_hyp y : Tx; exact JQ_roundP (k + 1, y) ⟨by dsimp only; omega, pl.le (by dsimp only; omega), pj⟩ (by dsimp only; omega) esubT lessT) | exact JQ_roundP (k + 1, x) ⟨by dsimp only; omega, hx.le (by dsimp only; omega), hj⟩ (by dsimp only; omega) esubT lessT
  clear h6
  have hxc : (moT x).chk.length ≤ 100000 := by have := hx.c; dsimp only; omega
  have hxw : (moT x).wr.length ≤ 100000 := by have := hx.w; dsimp only; omega
  have hcl : 0 ≤ x.cl ∧ x.cl < 6 := by rw [hj.cl]; omega
  refine JC_exit (JQ_then_exit (JQ_then_exit (JQ_hit (JQ_then (JC_seq ?_)))))
  refine JC_region ?_
  refine JL_1 rfl (op_move rfl) ?_
  refine JL_1 rfl (op_move rfl) ?_
  refine JL_1 rfl (op_move rfl) ?_
  refine JL_1 rfl (op_quo (Ev.rfl' rfl) (Ev.rfl' rfl) (by omega) wrapT) ?_
  (refine JL_s rfl (op_callN Try.call58 (HandView_ok _ _ _ []) ⟨evS, ⟨evS, ⟨evS, ⟨evS, ⟨evS, trivial⟩⟩⟩⟩⟩) ?_; intro i116)
  (refine JL_n rfl (op_allocN rfl nrmT rfl) ?_; intro i19)
  refine JL_s0 (op_storeN (Ev.rfl' rfl) (Ev.rfl' rfl) cellsT replT nrmT (by rfl) (by rfl) (by rfl)) ?_
  refine JL_nil ?_
  refine JQ_then (JC_seq (JC_seq ?_))
  have hms := handM_len mask (IntKind.i64.wrap (mask.tdiv 32)) []
  obtain ⟨vm0, hvm⟩ : ∃ m, handM mask (IntKind.i64.wrap (mask.tdiv 32)) [] = m := ⟨_, rfl⟩
  rw [hvm] at hms
  rw [hvm]
  refine JC_freeze hX (v := slV vm0.length i116) replT ?_
  refine JC_blkSub (b := i19) (As := [Is (.int .i64 (number % 16)), Is (slV vm0.length i116)]) (As' := [Is (.int .i64 (number % 16)), IsSl tMb vm0]) replT ⟨SubL.rfl', SubL.fact memT, trivial⟩ ?_
  refine JC_region ?_
  refine JL_1 rfl (op_move rfl) ?_
  refine JL_1 rfl (by first | ((refine op_call Try.call14 (PickH_ok _ _ ?_ ?_) ⟨evS, ⟨evS, trivial⟩⟩); all_goals (first | omega))) ?_
  refine JL_1 rfl (op_eql (Ev.rfl' rfl) (Ev.rfl' rfl)) ?_
  refine JL_nil ?_
  refine JQ_then ?_
  refine JC_cutT (fun v : Int × List Mb => v.2.length ≤ 5) (fun v => [(1, Is (.int .i64 number)), (2, Is (.int .i64 mask)), (11, Is (.pointer (some ⟨i11, 0, none⟩))), (12, Is (.int .i64 0)), (13, Is (.pointer (some ⟨i41, 0, none⟩))), (19, Is (.pointer (some ⟨i19, 0, none⟩)))]) (fun v => [blk i11 105 (txC x), blk i41 109 (moC (moT x)), blk i19 134 [Is (.int .i64 v.1), IsSl tMb v.2]]) ?_ ?_
  rotate_left
  focus
    refine JC_cond (Ev.rfl' rfl) (fun h27 => ?_) (fun h27 => ?_)
    · refine JC_region ?_
      refine JL_1 rfl (op_buildN (qs := []) rfl rfl rfl rfl trivial (by rfl) nrmT) ?_
      refine JL_s0 (op_storeN (Ev.rfl' rfl) (Ev.rfl' rfl) cellsT replT nrmT (by rfl) (by rfl) (by rfl)) ?_
      refine JL_nil ?_
      refine JQ_blkSub (b := i19) (As := [Is (.int .i64 0), Is (.slice none 0 0)]) (As' := [Is (.int .i64 0), IsSl tMb []]) replT ⟨SubL.rfl', SubL.nil, trivial⟩ ?_
      exact JQ_meetP (0, []) (Nat.zero_le _) esubT lessT
    refine JC_skip ?_
    exact JQ_meetP (number % 16, vm0) hms.2 esubT lessT
  rintro ⟨vn, vm⟩ hvl
  dsimp only at hvl ⊢
  obtain ⟨ln, hln⟩ : ∃ l, 90 + mask % 90 = l := ⟨_, rfl⟩
  refine JC_seq ?_
  refine JC_region ?_
  refine JL_1 rfl (op_move rfl) ?_
  refine JL_1 rfl (by first | ((refine op_call Try.call14 (PickH_ok _ _ ?_ ?_) ⟨evS, ⟨evS, trivial⟩⟩); all_goals (first | omega))) ?_
  refine JL_1 rfl (op_add (Ev.rfl' rfl) (Ev.rfl' rfl) wrapT) ?_
  refine JL_1 rfl (op_assign rfl) ?_
  refine JL_nil ?_
  refine JQ_then (JC_seq ?_)
  rw [hln]
  refine JC_region ?_
  refine JL_1 rfl (by first | exact op_loadRefsN (n := 5) (Ev.rfl' rfl) rfl rfl rfl (by rfl) nrmT | exact op_loadPtrsN (n := 5) (Ev.rfl' rfl) memT (by rfl) (by rfl) (by rfl) (by rfl) nrmT) ?_
  refine JL_1 rfl (by first | exact op_loadRefsN (n := 2) (Ev.rfl' rfl) rfl rfl rfl (by rfl) nrmT | exact op_loadPtrsN (n := 2) (Ev.rfl' rfl) memT (by rfl) (by rfl) (by rfl) (by rfl) nrmT) ?_
  refine JL_1 rfl (op_move rfl) ?_
  refine JL_1 rfl (by first | ((refine op_call Try.call59 (Job_ok x vn vm ln hxc hxw ?_ hx.asc hcl) ⟨evS, ⟨evS, ⟨evS, trivial⟩⟩⟩); all_goals (first | omega))) ?_
  refine JL_1 rfl (op_move rfl) ?_
  refine JL_1 rfl (op_extract (Ev.rfl' rfl) rfl) ?_
  refine JL_1 rfl (op_extract (Ev.rfl' rfl) rfl) ?_
  (refine JL_n rfl (op_allocN rfl nrmT rfl) ?_; intro i21)
  refine JL_s0 (op_storeN (Ev.rfl' rfl) (Ev.rfl' rfl) cellsT replT nrmT (by rfl) (by rfl) (by rfl)) ?_
  refine JL_1 rfl (op_assign rfl) ?_
  refine JL_nil ?_
  refine JQ_then (JC_seq ?_)
  refine JC_region ?_
  refine JL_1 rfl (op_move rfl) ?_
  (refine JL_s rfl (op_callT drop1T Try.call46 (setsF_ok i41 (moT x) hxc hxw) ⟨evS, trivial⟩) ?_; intro i133)
  refine JL_1 rfl (op_move rfl) ?_
  refine JL_1 rfl (op_extract (Ev.rfl' rfl) rfl) ?_
  refine JL_1 rfl (op_extract (Ev.rfl' rfl) rfl) ?_
  refine JL_1 rfl (op_extract (Ev.rfl' rfl) rfl) ?_
  refine JL_1 rfl (op_assign rfl) ?_
  refine JL_1 rfl (op_assign rfl) ?_
  refine JL_1 rfl (op_assign rfl) ?_
  refine JL_nil ?_
  refine JQ_then (JC_seq (JC_seq ?_))
  rw [← sets_same (x := x) (m := moT x) rfl rfl rfl hx.asc]
  refine JC_freeze hX (v := slV (setsV x (conL x) x.chk).1.length i133) replT ?_
  refine JC_set 23 (IsSl tSn (setsV x (conL x) x.chk).1) rfl (SubL.fact memT) ?_
  refine JC_region ?_
  refine JL_1 rfl (op_move rfl) ?_
  refine JL_1 rfl (op_eql (Ev.rfl' rfl) (Ev.rfl' rfl)) ?_
  refine JL_nil ?_
  refine JQ_then ?_
  refine JC_cutT (fun w : Int => w = (jobV x vn vm ln).2) (fun w => [(11, Is (.pointer (some ⟨i11, 0, none⟩))), (12, Is (.int .i64 0)), (19, Is (.pointer (some ⟨i19, 0, none⟩))), (20, Is (.int .i64 ln)), (21, Is (.pointer (some ⟨i21, 0, none⟩))), (22, Is (.int .i64 (jobV x vn vm ln).2)), (23, IsSl tSn (setsV x (conL x) x.chk).1), (24, IsSl tPg (setsV x (conL x) x.chk).2.1), (25, Is (.int .i64 w))]) (fun w => [blk i11 105 (txC x), blk i19 134 [Is (.int .i64 vn), IsSl tMb vm], blk i21 137 (jbC (jobV x vn vm ln).1)]) ?_ ?_
  rotate_left
  focus
    refine JC_cond (Ev.rfl' rfl) (fun h32 => ?_) (fun h32 => ?_)
    · have hS0 : (setsV x (conL x) x.chk).2.2 = 0 := by simpa using h32
      obtain ⟨e1, hgo⟩ := sets_good hx.asc hS0
      have hw := want_job (num := vn) (ln := ln) (ms := vm) hj hS0
      rw [e1]
      clear h32
      refine JC_seq ?_
      refine JC_region ?_
      refine JL_1 rfl (by first | exact op_loadRefsN (n := 2) (Ev.rfl' rfl) rfl rfl rfl (by rfl) nrmT | exact op_loadPtrsN (n := 2) (Ev.rfl' rfl) memT (by rfl) (by rfl) (by rfl) (by rfl) nrmT) ?_
      refine JL_1 rfl (by first | ((refine op_call Try.call60 (ValidR_ok _ _ _ ?_) ⟨evS, ⟨evS, trivial⟩⟩); all_goals (first | omega))) ?_
      refine JL_1 rfl (op_assign rfl) ?_
      refine JL_nil ?_
      refine JQ_then (JC_seq ?_)
      refine JC_region ?_
      refine JL_1 rfl (by first | exact op_fieldPtr (k := 1) (Ev.rfl' rfl) rfl rfl rfl rfl | exact op_fieldRefN (k := 1) (Ev.rfl' rfl) rfl rfl rfl rfl nrmT) ?_
      refine JL_1 rfl (by first | exact op_loadRef (Ev.rfl' rfl) rfl rfl rfl | exact op_loadPtr (Ev.rfl' rfl) memT (by rfl) (by rfl) (by rfl)) ?_
      refine JL_1 rfl (op_move rfl) ?_
      refine JL_1 rfl (op_buildN (qs := [(0, _), (1, _)]) rfl rfl rfl rfl ⟨⟨rfl, _, (Ev.rfl' rfl), cellsT⟩, ⟨⟨rfl, _, (Ev.rfl' rfl), cellsT⟩, trivial⟩⟩ (by rfl) nrmT) ?_
      (refine JL_n rfl (op_allocN rfl nrmT rfl) ?_; intro i26)
      refine JL_s0 (op_storeN (Ev.rfl' rfl) (Ev.rfl' rfl) cellsT replT nrmT (by rfl) (by rfl) (by rfl)) ?_
      refine JL_nil ?_
      refine JQ_then (JC_seq (JC_seq ?_))
      refine JC_region ?_
      refine JL_1 rfl (op_move rfl) ?_
      refine JL_1 rfl (op_eql (Ev.rfl' rfl) (Ev.rfl' rfl)) ?_
      refine JL_1 rfl (op_move rfl) ?_
      (first | refine JL_i0 rfl rfl rfl (fun hg => (by have hg0 := hg; (try simp at hg); first | exact op_moveE (Ev.sub rfl (SubL.iteT (by first | assumption | (simp; done) | (simp; omega) | (simp_all; done)) SubL.rfl')) | exact op_moveE (Ev.rfl' rfl))) ?_ | refine JL_i rfl rfl rfl (fun hp hg => (by have hpg := Bool.and_eq_true_iff.2 ⟨hp, hg⟩; have hg0 := hg; (try simp at hg); first | exact op_moveE (Ev.sub rfl (SubL.iteT (by first | assumption | (simp; done) | (simp; omega) | (simp_all; done)) SubL.rfl')) | exact op_moveE (Ev.rfl' rfl))) ?_)
      (first | refine JL_i0 rfl rfl rfl (fun hg => (by have hg0 := hg; (try simp at hg); exact op_lss evG evG)) ?_ | refine JL_i rfl rfl rfl (fun hp hg => (by have hpg := Bool.and_eq_true_iff.2 ⟨hp, hg⟩; have hg0 := hg; (try simp at hg); exact op_lss evG evG)) ?_)
      (first | refine JL_i0 rfl rfl rfl (fun hg => (by have hg0 := hg; (try simp at hg); first | exact op_moveE (Ev.sub rfl (SubL.iteT (by first | assumption | (simp; done) | (simp; omega) | (simp_all; done)) SubL.rfl')) | exact op_moveE (Ev.rfl' rfl))) ?_ | refine JL_i rfl rfl rfl (fun hp hg => (by have hpg := Bool.and_eq_true_iff.2 ⟨hp, hg⟩; have hg0 := hg; (try simp at hg); first | exact op_moveE (Ev.sub rfl (SubL.iteT (by first | assumption | (simp; done) | (simp; omega) | (simp_all; done)) SubL.rfl')) | exact op_moveE (Ev.rfl' rfl))) ?_)
      (first | refine JL_i0 rfl rfl rfl (fun hg => (by have hg0 := hg; (try simp at hg); first | exact op_moveE (Ev.sub rfl (SubL.iteT (by first | assumption | (simp; done) | (simp; omega) | (simp_all; done)) SubL.rfl')) | exact op_moveE (Ev.rfl' rfl))) ?_ | refine JL_i rfl rfl rfl (fun hp hg => (by have hpg := Bool.and_eq_true_iff.2 ⟨hp, hg⟩; have hg0 := hg; (try simp at hg); first | exact op_moveE (Ev.sub rfl (SubL.iteT (by first | assumption | (simp; done) | (simp; omega) | (simp_all; done)) SubL.rfl')) | exact op_moveE (Ev.rfl' rfl))) ?_)
      (first | refine JL_i0 rfl rfl rfl (fun hg => (by have hg0 := hg; (try simp at hg); exact op_gtr evG evG)) ?_ | refine JL_i rfl rfl rfl (fun hp hg => (by have hpg := Bool.and_eq_true_iff.2 ⟨hp, hg⟩; have hg0 := hg; (try simp at hg); exact op_gtr evG evG)) ?_)
      (first | refine JL_i0 rfl rfl rfl (fun hg => (by have hg0 := hg; (try simp at hg); exact op_or evG rfl (fun h => by first | exact SubL.rfl' | exact SubL.iteT (by first | (rw [h]; rfl) | (simp_all; done)) SubL.rfl'))) ?_ | refine JL_i rfl rfl rfl (fun hp hg => (by have hpg := Bool.and_eq_true_iff.2 ⟨hp, hg⟩; have hg0 := hg; (try simp at hg); exact op_or evG rfl (fun h => by first | exact SubL.rfl' | exact SubL.iteT (by first | (rw [h]; rfl) | (simp_all; done)) SubL.rfl'))) ?_)
      refine JL_1 rfl (op_and (Ev.rfl' rfl) rfl (fun h => by first | exact SubL.rfl' | exact SubL.iteT (by first | (rw [h]; rfl) | (simp_all; done)) SubL.rfl')) ?_
      refine JL_nil ?_
      refine JQ_then ?_
      refine JC_cutT (fun w : Int => w = want2 vn vm ln) (fun w => [(11, Is (.pointer (some ⟨i11, 0, none⟩))), (12, Is (.int .i64 0)), (19, Is (.pointer (some ⟨i19, 0, none⟩))), (20, Is (.int .i64 ln)), (21, Is (.pointer (some ⟨i21, 0, none⟩))), (22, Is (.int .i64 (jobV x vn vm ln).2)), (23, IsSl tSn (rdL x x.chk)), (24, IsSl tPg x.wr), (25, Is (.int .i64 w)), (26, Is (.pointer (some ⟨i26, 0, none⟩)))]) (fun w => [blk i11 105 (txC x), blk i19 134 [Is (.int .i64 vn), IsSl tMb vm], blk i21 137 (jbC (jobV x vn vm ln).1), blk i26 142 [Is (.int .i64 x.sq), IsSl tPg x.wr]]) ?_ ?_
      rotate_left
      focus
        refine JC_cond (Ev.rfl' rfl) (fun h35 => ?_) (fun h35 => ?_)
        · refine JC_region ?_
          refine JL_1 rfl (op_assign rfl) ?_
          refine JL_nil ?_
          exact JQ_meetP 18 (by unfold want2; rw [if_pos (by simpa using h35)]) esubT lessT
        refine JC_skip ?_
        exact JQ_meetP (validV vn vm 5) (by
          unfold want2
          rw [if_neg]
          intro hh
          simp [hh.1] at h35
          omega) esubT lessT
      rintro w2 hw2
      refine JC_seq (JC_seq ?_)
      refine JC_region ?_
      refine JL_1 rfl (op_move rfl) ?_
      refine JL_1 rfl (op_eql (Ev.rfl' rfl) (Ev.rfl' rfl)) ?_
      refine JL_1 rfl (op_move rfl) ?_
      (first | refine JL_i0 rfl rfl rfl (fun hg => (by have hg0 := hg; (try simp at hg); first | exact op_moveE (Ev.sub rfl (SubL.iteT (by first | assumption | (simp; done) | (simp; omega) | (simp_all; done)) SubL.rfl')) | exact op_moveE (Ev.rfl' rfl))) ?_ | refine JL_i rfl rfl rfl (fun hp hg => (by have hpg := Bool.and_eq_true_iff.2 ⟨hp, hg⟩; have hg0 := hg; (try simp at hg); first | exact op_moveE (Ev.sub rfl (SubL.iteT (by first | assumption | (simp; done) | (simp; omega) | (simp_all; done)) SubL.rfl')) | exact op_moveE (Ev.rfl' rfl))) ?_)
      (first | refine JL_i0 rfl rfl rfl (fun hg => (by have hg0 := hg; (try simp at hg); first | exact op_len evG rfl | exact op_lenLit evG rfl)) ?_ | refine JL_i rfl rfl rfl (fun hp hg => (by have hpg := Bool.and_eq_true_iff.2 ⟨hp, hg⟩; have hg0 := hg; (try simp at hg); first | exact op_len evG rfl | exact op_lenLit evG rfl)) ?_)
      (first | refine JL_i0 rfl rfl rfl (fun hg => (by have hg0 := hg; (try simp at hg); exact op_gtr evG evG)) ?_ | refine JL_i rfl rfl rfl (fun hp hg => (by have hpg := Bool.and_eq_true_iff.2 ⟨hp, hg⟩; have hg0 := hg; (try simp at hg); exact op_gtr evG evG)) ?_)
      refine JL_1 rfl (op_and (Ev.rfl' rfl) rfl (fun h => by first | exact SubL.rfl' | exact SubL.iteT (by first | (rw [h]; rfl) | (simp_all; done)) SubL.rfl')) ?_
      refine JL_nil ?_
      refine JQ_then ?_
      refine JC_cutT (fun w : Int => w = want3 x vn vm ln) (fun w => [(11, Is (.pointer (some ⟨i11, 0, none⟩))), (12, Is (.int .i64 0)), (19, Is (.pointer (some ⟨i19, 0, none⟩))), (20, Is (.int .i64 ln)), (21, Is (.pointer (some ⟨i21, 0, none⟩))), (22, Is (.int .i64 (jobV x vn vm ln).2)), (23, IsSl tSn (rdL x x.chk)), (24, IsSl tPg x.wr), (25, Is (.int .i64 w))]) (fun w => [blk i11 105 (txC x), blk i19 134 [Is (.int .i64 vn), IsSl tMb vm], blk i21 137 (jbC (jobV x vn vm ln).1)]) ?_ ?_
      rotate_left
      focus
        refine JC_cond (Ev.rfl' rfl) (fun h37 => ?_) (fun h37 => ?_)
        · have g37 : want2 vn vm ln = 0 ∧ 0 < x.wr.length := by
            rw [Bool.and_eq_true] at h37
            exact ⟨by rw [← hw2]; simpa using h37.1, by have := of_decide_eq_true h37.2; omega⟩
          refine JC_region ?_
          refine JL_1 rfl (by first | exact op_loadRefsN (n := 2) (Ev.rfl' rfl) rfl rfl rfl (by rfl) nrmT | exact op_loadPtrsN (n := 2) (Ev.rfl' rfl) memT (by rfl) (by rfl) (by rfl) (by rfl) nrmT) ?_
          refine JL_1 rfl (op_move rfl) ?_
          refine JL_1 rfl (op_call Try.call61 (ValidLR_ok _ _ _) ⟨evS, ⟨evS, trivial⟩⟩) ?_
          refine JL_1 rfl (op_assign rfl) ?_
          refine JL_nil ?_
          exact JQ_meetP (validR x.sq x.wr ln) (by unfold want3; rw [if_pos g37]) esubT lessT
        have g37 : ¬ (want2 vn vm ln = 0 ∧ 0 < x.wr.length) := fun hh => by
          rw [hw2, hh.1] at h37
          have e0 : decide ((x.wr.length : Int) > 0) = true := decide_eq_true (by omega)
          rw [e0] at h37
          cases h37
        refine JC_skip ?_
        exact JQ_meetP w2 (by unfold want3; rw [if_neg g37, hw2]) esubT lessT
      rintro w3 hw3
      refine JC_seq ?_
      refine JC_region ?_
      refine JL_1 rfl (op_assign rfl) ?_
      refine JL_nil ?_
      refine JQ_then (JC_block ?_)
      refine JC_loopP (fun z : Nat × Int => z.1 ≤ (rdL x x.chk).length ∧ ((z.2 = w3 ∧ (w3 = 0 → ((rdL x x.chk).take z.1).any (far2 ln) = false)) ∨ (z.2 = 2 ∧ w3 = 0 ∧ (rdL x x.chk).any (far2 ln) = true))) (fun z => [(11, Is (.pointer (some ⟨i11, 0, none⟩))), (12, Is (.int .i64 0)), (19, Is (.pointer (some ⟨i19, 0, none⟩))), (20, Is (.int .i64 ln)), (21, Is (.pointer (some ⟨i21, 0, none⟩))), (22, Is (.int .i64 (jobV x vn vm ln).2)), (23, IsSl tSn (rdL x x.chk)), (24, IsSl tPg x.wr), (25, Is (.int .i64 z.2)), (27, Is (.int .i64 (z.1 : Nat)))]) (fun z => [blk i11 105 (txC x), blk i19 134 [Is (.int .i64 vn), IsSl tMb vm], blk i21 137 (jbC (jobV x vn vm ln).1)]) (fun z => (rdL x x.chk).length - z.1) (0, w3) ⟨Nat.zero_le _, .inl ⟨rfl, fun _ => rfl⟩⟩ esubT lessT ?_
      rintro ⟨k, w⟩ ⟨hk, hP⟩
      dsimp only at hk hP ⊢
      have hrl := hgo.len
      refine JC_seq (JC_seq ?_)
      refine JC_region ?_
      refine JL_1 rfl (op_move rfl) ?_
      refine JL_1 rfl (op_move rfl) ?_
      refine JL_1 rfl (by first | exact op_len (Ev.rfl' rfl) rfl | exact op_lenLit (Ev.rfl' rfl) rfl) ?_
      refine JL_1 rfl (op_lss (Ev.rfl' rfl) (Ev.rfl' rfl)) ?_
      refine JL_1 rfl (op_move rfl) ?_
      (first | refine JL_i0 rfl rfl rfl (fun hg => (by have hg0 := hg; (try simp at hg); first | exact op_moveE (Ev.sub rfl (SubL.iteT (by first | assumption | (simp; done) | (simp; omega) | (simp_all; done)) SubL.rfl')) | exact op_moveE (Ev.rfl' rfl))) ?_ | refine JL_i rfl rfl rfl (fun hp hg => (by have hpg := Bool.and_eq_true_iff.2 ⟨hp, hg⟩; have hg0 := hg; (try simp at hg); first | exact op_moveE (Ev.sub rfl (SubL.iteT (by first | assumption | (simp; done) | (simp; omega) | (simp_all; done)) SubL.rfl')) | exact op_moveE (Ev.rfl' rfl))) ?_)
      (first | refine JL_i0 rfl rfl rfl (fun hg => (by have hg0 := hg; (try simp at hg); exact op_eql evG evG)) ?_ | refine JL_i rfl rfl rfl (fun hp hg => (by have hpg := Bool.and_eq_true_iff.2 ⟨hp, hg⟩; have hg0 := hg; (try simp at hg); exact op_eql evG evG)) ?_)
      refine JL_1 rfl (op_and (Ev.rfl' rfl) rfl (fun h => by first | exact SubL.rfl' | exact SubL.iteT (by first | (rw [h]; rfl) | (simp_all; done)) SubL.rfl')) ?_
      refine JL_nil ?_
      refine JQ_then ?_
      refine JC_cond (Ev.rfl' rfl) (fun h40 => ?_) (fun h40 => ?_)
      · have hlt : k < (rdL x x.chk).length ∧ w = 0 := by
          rw [Bool.and_eq_true] at h40
          have := of_decide_eq_true h40.1
          exact ⟨by omega, by simpa using h40.2⟩
        clear h40
        have hA : w3 = 0 ∧ ((rdL x x.chk).take k).any (far2 ln) = false := by
          rcases hP with ⟨ha, hb⟩ | ⟨ha, _⟩
          · have h0 : w3 = 0 := by rw [← ha]; exact hlt.2
            exact ⟨h0, hb h0⟩
          · omega
        obtain ⟨s, hz⟩ : ∃ z, (rdL x x.chk)[k]? = some z := ⟨(rdL x x.chk)[k]'hlt.1, List.getElem?_eq_getElem hlt.1⟩
        have a1 := anyS_take (f := far2 ln) hz
        refine JC_skip (JQ_then (JC_seq (JC_block (JC_seq ?_))))
        refine JC_region ?_
        refine JL_1 rfl (op_move rfl) ?_
        refine JL_1 rfl (op_move rfl) ?_
        refine JL_1 rfl (by first | exact op_index (j := _) (Ev.rfl' rfl) (Ev.rfl' rfl) rfl rfl (by first | rfl | omega) hz | exact op_index (j := _) (Ev.rfl' rfl) (Ev.rfl' rfl) rfl rfl (by first | rfl | omega) (by assumption)) ?_
        refine JL_1 rfl (by first | exact op_fieldPtr (k := 0) (Ev.rfl' rfl) rfl rfl rfl rfl | exact op_fieldRefN (k := 0) (Ev.rfl' rfl) rfl rfl rfl rfl nrmT) ?_
        refine JL_1 rfl (by first | exact op_loadRef (Ev.rfl' rfl) rfl rfl rfl | exact op_loadPtr (Ev.rfl' rfl) memT (by rfl) (by rfl) (by rfl)) ?_
        refine JL_1 rfl (op_move rfl) ?_
        refine JL_1 rfl (op_geq (Ev.rfl' rfl) (Ev.rfl' rfl)) ?_
        refine JL_nil ?_
        refine JQ_then ?_
        refine JC_cond (Ev.rfl' rfl) (fun h42 => ?_) (fun h42 => ?_)
        · have efar : (rdL x x.chk).any (far2 ln) = true := List.any_eq_true.2 ⟨s, List.mem_of_getElem? hz, h42⟩
          have e42 : True := trivial
          clear h42
          refine JC_region ?_
          refine JL_1 rfl (op_assign rfl) ?_
          refine JL_nil ?_
          refine JQ_block (JQ_then ?_)
          refine JC_region ?_
          refine JL_1 rfl (op_move rfl) ?_
          refine JL_1 rfl (op_add (Ev.rfl' rfl) (Ev.rfl' rfl) wrapT) ?_
          refine JL_1 rfl (op_assign rfl) ?_
          refine JL_nil ?_
          first | (guard_hyp e42 : True; exact JQ_roundP (k + 1, 2) ⟨by dsimp only; omega, .inr ⟨rfl, hA.1, efar⟩⟩ (by dsimp only; omega) esubT lessT) | exact JQ_roundP (k + 1, w) ⟨by dsimp only; omega, .inl ⟨by rw [hA.1]; exact hlt.2, fun _ => a1⟩⟩ (by dsimp only; omega) esubT lessT
        rw [hA.2, show far2 ln s = false from h42] at a1
        clear h42
        refine JC_skip (JQ_block (JQ_then ?_))
        refine JC_region ?_
        refine JL_1 rfl (op_move rfl) ?_
        refine JL_1 rfl (op_add (Ev.rfl' rfl) (Ev.rfl' rfl) wrapT) ?_
        refine JL_1 rfl (op_assign rfl) ?_
        refine JL_nil ?_
        first | (guard_hyp e42 : True; exact JQ_roundP (k + 1, 2) ⟨by dsimp only; omega, .inr ⟨rfl, hA.1, efar⟩⟩ (by dsimp only; omega) esubT lessT) | exact JQ_roundP (k + 1, w) ⟨by dsimp only; omega, .inl ⟨by rw [hA.1]; exact hlt.2, fun _ => a1⟩⟩ (by dsimp only; omega) esubT lessT
      have hfin : w = (jobV x vn vm ln).2 := by
        rw [hw, ← hw3]
        rcases hP with ⟨ha, hb⟩ | ⟨ha, hb, hd⟩
        · rw [ha, if_neg]
          rintro ⟨h1, h2⟩
          have hkl : k = (rdL x x.chk).length := by
            rcases Nat.lt_or_ge k (rdL x x.chk).length with h3 | h3
            · rw [ha, h1, decide_eq_true (by omega)] at h40
              cases h40
            · omega
          have h4 := hb h1
          rw [hkl, List.take_length, h2] at h4
          cases h4
        · rw [ha, if_pos ⟨hb, hd⟩]
      refine JC_exit (JQ_then_exit (JQ_then_exit (JQ_hit ?_)))
      exact JQ_meetP w hfin esubT lessT
    refine JC_skip ?_
    exact JQ_meetP (setsV x (conL x) x.chk).2.2 (by unfold jobV; rw [if_pos (by simpa using h32)]) esubT lessT
  rintro w hwj
  subst hwj
  refine JC_seq (JC_seq ?_)
  refine JC_region ?_
  refine JL_1 rfl (op_move rfl) ?_
  refine JL_1 rfl (op_neq (Ev.rfl' rfl) (Ev.rfl' rfl)) ?_
  refine JL_1 rfl (op_move rfl) ?_
  (first | refine JL_i0 rfl rfl rfl (fun hg => (by have hg0 := hg; (try simp at hg); first | exact op_moveE (Ev.sub rfl (SubL.iteT (by first | assumption | (simp; done) | (simp; omega) | (simp_all; done)) SubL.rfl')) | exact op_moveE (Ev.rfl' rfl))) ?_ | refine JL_i rfl rfl rfl (fun hp hg => (by have hpg := Bool.and_eq_true_iff.2 ⟨hp, hg⟩; have hg0 := hg; (try simp at hg); first | exact op_moveE (Ev.sub rfl (SubL.iteT (by first | assumption | (simp; done) | (simp; omega) | (simp_all; done)) SubL.rfl')) | exact op_moveE (Ev.rfl' rfl))) ?_)
  (first | refine JL_i0 rfl rfl rfl (fun hg => (by have hg0 := hg; (try simp at hg); first | exact op_moveE (Ev.sub rfl (SubL.iteT (by first | assumption | (simp; done) | (simp; omega) | (simp_all; done)) SubL.rfl')) | exact op_moveE (Ev.rfl' rfl))) ?_ | refine JL_i rfl rfl rfl (fun hp hg => (by have hpg := Bool.and_eq_true_iff.2 ⟨hp, hg⟩; have hg0 := hg; (try simp at hg); first | exact op_moveE (Ev.sub rfl (SubL.iteT (by first | assumption | (simp; done) | (simp; omega) | (simp_all; done)) SubL.rfl')) | exact op_moveE (Ev.rfl' rfl))) ?_)
  (first | refine JL_i0 rfl rfl rfl (fun hg => (by have hg0 := hg; (try simp at hg); exact op_neq evG evG)) ?_ | refine JL_i rfl rfl rfl (fun hp hg => (by have hpg := Bool.and_eq_true_iff.2 ⟨hp, hg⟩; have hg0 := hg; (try simp at hg); exact op_neq evG evG)) ?_)
  refine JL_1 rfl (op_or (Ev.rfl' rfl) rfl (fun h => by first | exact SubL.rfl' | exact SubL.iteT (by first | (rw [h]; rfl) | (simp_all; done)) SubL.rfl')) ?_
  refine JL_nil ?_
  refine JQ_then ?_
  refine JC_cond (Ev.rfl' rfl) (fun h44 => ?_) (fun h44 => ?_)
  · exact absurd h44 (by simp)
  clear h44
  refine JC_skip (JQ_then (JC_seq (JC_seq ?_)))
  refine JC_region ?_
  refine JL_1 rfl (op_move rfl) ?_
  refine JL_1 rfl (op_neq (Ev.rfl' rfl) (Ev.rfl' rfl)) ?_
  refine JL_nil ?_
  refine JQ_then ?_
  refine JC_cond (Ev.rfl' rfl) (fun h46 => ?_) (fun h46 => ?_)
  · have hne : (jobV x vn vm ln).2 ≠ 0 := by simpa using h46
    rw [job_nil hne]
    clear h46
    refine JC_seq ?_
    refine JC_region ?_
    refine JL_1 rfl (op_call Try.call47 (awakeT_ok) trivial) ?_
    refine JL_1 rfl (op_move rfl) ?_
    (first | refine JL_i0 rfl rfl rfl (fun hg => (by have hg0 := hg; (try simp at hg); first | exact op_fieldPtr (k := 5) evG rfl rfl rfl rfl | exact op_fieldRefN (k := 5) evG rfl rfl rfl rfl nrmT)) ?_ | refine JL_i rfl rfl rfl (fun hp hg => (by have hpg := Bool.and_eq_true_iff.2 ⟨hp, hg⟩; have hg0 := hg; (try simp at hg); first | exact op_fieldPtr (k := 5) evG rfl rfl rfl rfl | exact op_fieldRefN (k := 5) evG rfl rfl rfl rfl nrmT)) ?_)
    (first | refine JL_i0 rfl rfl rfl (fun hg => (by have hg0 := hg; (try simp at hg); first | exact op_loadRef evG rfl rfl rfl | exact op_loadPtr evG memT (by rfl) (by rfl) (by rfl))) ?_ | refine JL_i rfl rfl rfl (fun hp hg => (by have hpg := Bool.and_eq_true_iff.2 ⟨hp, hg⟩; have hg0 := hg; (try simp at hg); first | exact op_loadRef evG rfl rfl rfl | exact op_loadPtr evG memT (by rfl) (by rfl) (by rfl))) ?_)
    (first | refine JL_i0 rfl rfl rfl (fun hg => (by have hg0 := hg; (try simp at hg); first | exact op_len evG rfl | exact op_lenLit evG rfl)) ?_ | refine JL_i rfl rfl rfl (fun hp hg => (by have hpg := Bool.and_eq_true_iff.2 ⟨hp, hg⟩; have hg0 := hg; (try simp at hg); first | exact op_len evG rfl | exact op_lenLit evG rfl)) ?_)
    (first | refine JL_i0 rfl rfl rfl (fun hg => (by have hg0 := hg; (try simp at hg); exact op_eql evG evG)) ?_ | refine JL_i rfl rfl rfl (fun hp hg => (by have hpg := Bool.and_eq_true_iff.2 ⟨hp, hg⟩; have hg0 := hg; (try simp at hg); exact op_eql evG evG)) ?_)
    refine JL_1 rfl (op_and (Ev.rfl' rfl) rfl (fun h => by first | exact SubL.rfl' | exact SubL.iteT (by first | (rw [h]; rfl) | (simp_all; done)) SubL.rfl')) ?_
    refine JL_1 rfl (op_move rfl) ?_
    (first | refine JL_i0 rfl rfl rfl (fun hg => (by have hg0 := hg; (try simp at hg); first | exact op_fieldPtr (k := 6) evG rfl rfl rfl rfl | exact op_fieldRefN (k := 6) evG rfl rfl rfl rfl nrmT)) ?_ | refine JL_i rfl rfl rfl (fun hp hg => (by have hpg := Bool.and_eq_true_iff.2 ⟨hp, hg⟩; have hg0 := hg; (try simp at hg); first | exact op_fieldPtr (k := 6) evG rfl rfl rfl rfl | exact op_fieldRefN (k := 6) evG rfl rfl rfl rfl nrmT)) ?_)
    (first | refine JL_i0 rfl rfl rfl (fun hg => (by have hg0 := hg; (try simp at hg); first | exact op_loadRef evG rfl rfl rfl | exact op_loadPtr evG memT (by rfl) (by rfl) (by rfl))) ?_ | refine JL_i rfl rfl rfl (fun hp hg => (by have hpg := Bool.and_eq_true_iff.2 ⟨hp, hg⟩; have hg0 := hg; (try simp at hg); first | exact op_loadRef evG rfl rfl rfl | exact op_loadPtr evG memT (by rfl) (by rfl) (by rfl))) ?_)
    (first | refine JL_i0 rfl rfl rfl (fun hg => (by have hg0 := hg; (try simp at hg); first | exact op_len evG rfl | exact op_lenLit evG rfl)) ?_ | refine JL_i rfl rfl rfl (fun hp hg => (by have hpg := Bool.and_eq_true_iff.2 ⟨hp, hg⟩; have hg0 := hg; (try simp at hg); first | exact op_len evG rfl | exact op_lenLit evG rfl)) ?_)
    (first | refine JL_i0 rfl rfl rfl (fun hg => (by have hg0 := hg; (try simp at hg); exact op_eql evG evG)) ?_ | refine JL_i rfl rfl rfl (fun hp hg => (by have hpg := Bool.and_eq_true_iff.2 ⟨hp, hg⟩; have hg0 := hg; (try simp at hg); exact op_eql evG evG)) ?_)
    refine JL_1 rfl (op_and (Ev.rfl' rfl) rfl (fun h => by first | exact SubL.rfl' | exact SubL.iteT (by first | (rw [h]; rfl) | (simp_all; done)) SubL.rfl')) ?_
    refine JL_1 rfl (op_assign rfl) ?_
    refine JL_nil ?_
    refine JQ_then (JC_ret (JQ_then_ret ?_))
    refine JQ_ret1 Try.results12 rfl () (SubL.eq ?_) (List.nil_sublist _)
    rfl
  have h0 : (jobV x vn vm ln).2 = 0 := by simpa using h46
  obtain ⟨hs0, ej⟩ := job_yes h0
  obtain ⟨e1, _⟩ := sets_good hx.asc hs0
  rw [ej, e1]
  clear h46
  refine JC_skip (JQ_then (JC_seq ?_))
  refine JC_region ?_
  refine JL_1 rfl (op_call Try.call47 (awakeT_ok) trivial) ?_
  refine JL_1 rfl (op_move rfl) ?_
  (first | refine JL_i0 rfl rfl rfl (fun hg => (by have hg0 := hg; (try simp at hg); first | exact op_fieldPtr (k := 0) evG rfl rfl rfl rfl | exact op_fieldRefN (k := 0) evG rfl rfl rfl rfl nrmT)) ?_ | refine JL_i rfl rfl rfl (fun hp hg => (by have hpg := Bool.and_eq_true_iff.2 ⟨hp, hg⟩; have hg0 := hg; (try simp at hg); first | exact op_fieldPtr (k := 0) evG rfl rfl rfl rfl | exact op_fieldRefN (k := 0) evG rfl rfl rfl rfl nrmT)) ?_)
  (first | refine JL_i0 rfl rfl rfl (fun hg => (by have hg0 := hg; (try simp at hg); first | exact op_loadRef evG rfl rfl rfl | exact op_loadPtr evG memT (by rfl) (by rfl) (by rfl))) ?_ | refine JL_i rfl rfl rfl (fun hp hg => (by have hpg := Bool.and_eq_true_iff.2 ⟨hp, hg⟩; have hg0 := hg; (try simp at hg); first | exact op_loadRef evG rfl rfl rfl | exact op_loadPtr evG memT (by rfl) (by rfl) (by rfl))) ?_)
  (first | refine JL_i0 rfl rfl rfl (fun hg => (by have hg0 := hg; (try simp at hg); first | exact op_fieldPtr (k := 0) evG rfl rfl rfl rfl | exact op_fieldRefN (k := 0) evG rfl rfl rfl rfl nrmT)) ?_ | refine JL_i rfl rfl rfl (fun hp hg => (by have hpg := Bool.and_eq_true_iff.2 ⟨hp, hg⟩; have hg0 := hg; (try simp at hg); first | exact op_fieldPtr (k := 0) evG rfl rfl rfl rfl | exact op_fieldRefN (k := 0) evG rfl rfl rfl rfl nrmT)) ?_)
  (first | refine JL_i0 rfl rfl rfl (fun hg => (by have hg0 := hg; (try simp at hg); first | exact op_loadRef evG rfl rfl rfl | exact op_loadPtr evG memT (by rfl) (by rfl) (by rfl))) ?_ | refine JL_i rfl rfl rfl (fun hp hg => (by have hpg := Bool.and_eq_true_iff.2 ⟨hp, hg⟩; have hg0 := hg; (try simp at hg); first | exact op_loadRef evG rfl rfl rfl | exact op_loadPtr evG memT (by rfl) (by rfl) (by rfl))) ?_)
  (first | refine JL_i0 rfl rfl rfl (fun hg => (by have hg0 := hg; (try simp at hg); exact op_eql evG evG)) ?_ | refine JL_i rfl rfl rfl (fun hp hg => (by have hpg := Bool.and_eq_true_iff.2 ⟨hp, hg⟩; have hg0 := hg; (try simp at hg); exact op_eql evG evG)) ?_)
  refine JL_1 rfl (op_and (Ev.rfl' rfl) rfl (fun h => by first | exact SubL.rfl' | exact SubL.iteT (by first | (rw [h]; rfl) | (simp_all; done)) SubL.rfl')) ?_
  refine JL_1 rfl (op_move rfl) ?_
  (first | refine JL_i0 rfl rfl rfl (fun hg => (by have hg0 := hg; (try simp at hg); first | exact op_fieldPtr (k := 1) evG rfl rfl rfl rfl | exact op_fieldRefN (k := 1) evG rfl rfl rfl rfl nrmT)) ?_ | refine JL_i rfl rfl rfl (fun hp hg => (by have hpg := Bool.and_eq_true_iff.2 ⟨hp, hg⟩; have hg0 := hg; (try simp at hg); first | exact op_fieldPtr (k := 1) evG rfl rfl rfl rfl | exact op_fieldRefN (k := 1) evG rfl rfl rfl rfl nrmT)) ?_)
  (first | refine JL_i0 rfl rfl rfl (fun hg => (by have hg0 := hg; (try simp at hg); first | exact op_loadRef evG rfl rfl rfl | exact op_loadPtr evG memT (by rfl) (by rfl) (by rfl))) ?_ | refine JL_i rfl rfl rfl (fun hp hg => (by have hpg := Bool.and_eq_true_iff.2 ⟨hp, hg⟩; have hg0 := hg; (try simp at hg); first | exact op_loadRef evG rfl rfl rfl | exact op_loadPtr evG memT (by rfl) (by rfl) (by rfl))) ?_)
  (first | refine JL_i0 rfl rfl rfl (fun hg => (by have hg0 := hg; (try simp at hg); first | exact op_fieldPtr (k := 1) evG rfl rfl rfl rfl | exact op_fieldRefN (k := 1) evG rfl rfl rfl rfl nrmT)) ?_ | refine JL_i rfl rfl rfl (fun hp hg => (by have hpg := Bool.and_eq_true_iff.2 ⟨hp, hg⟩; have hg0 := hg; (try simp at hg); first | exact op_fieldPtr (k := 1) evG rfl rfl rfl rfl | exact op_fieldRefN (k := 1) evG rfl rfl rfl rfl nrmT)) ?_)
  (first | refine JL_i0 rfl rfl rfl (fun hg => (by have hg0 := hg; (try simp at hg); first | exact op_loadRef evG rfl rfl rfl | exact op_loadPtr evG memT (by rfl) (by rfl) (by rfl))) ?_ | refine JL_i rfl rfl rfl (fun hp hg => (by have hpg := Bool.and_eq_true_iff.2 ⟨hp, hg⟩; have hg0 := hg; (try simp at hg); first | exact op_loadRef evG rfl rfl rfl | exact op_loadPtr evG memT (by rfl) (by rfl) (by rfl))) ?_)
  (first | refine JL_i0 rfl rfl rfl (fun hg => (by have hg0 := hg; (try simp at hg); exact op_eql evG evG)) ?_ | refine JL_i rfl rfl rfl (fun hp hg => (by have hpg := Bool.and_eq_true_iff.2 ⟨hp, hg⟩; have hg0 := hg; (try simp at hg); exact op_eql evG evG)) ?_)
  refine JL_1 rfl (op_and (Ev.rfl' rfl) rfl (fun h => by first | exact SubL.rfl' | exact SubL.iteT (by first | (rw [h]; rfl) | (simp_all; done)) SubL.rfl')) ?_
  refine JL_1 rfl (op_move rfl) ?_
  (first | refine JL_i0 rfl rfl rfl (fun hg => (by have hg0 := hg; (try simp at hg); first | exact op_fieldPtr (k := 2) evG rfl rfl rfl rfl | exact op_fieldRefN (k := 2) evG rfl rfl rfl rfl nrmT)) ?_ | refine JL_i rfl rfl rfl (fun hp hg => (by have hpg := Bool.and_eq_true_iff.2 ⟨hp, hg⟩; have hg0 := hg; (try simp at hg); first | exact op_fieldPtr (k := 2) evG rfl rfl rfl rfl | exact op_fieldRefN (k := 2) evG rfl rfl rfl rfl nrmT)) ?_)
  (first | refine JL_i0 rfl rfl rfl (fun hg => (by have hg0 := hg; (try simp at hg); first | exact op_loadRef evG rfl rfl rfl | exact op_loadPtr evG memT (by rfl) (by rfl) (by rfl))) ?_ | refine JL_i rfl rfl rfl (fun hp hg => (by have hpg := Bool.and_eq_true_iff.2 ⟨hp, hg⟩; have hg0 := hg; (try simp at hg); first | exact op_loadRef evG rfl rfl rfl | exact op_loadPtr evG memT (by rfl) (by rfl) (by rfl))) ?_)
  (first | refine JL_i0 rfl rfl rfl (fun hg => (by have hg0 := hg; (try simp at hg); first | exact op_moveE (Ev.sub rfl (SubL.iteT (by first | assumption | (simp; done) | (simp; omega) | (simp_all; done)) SubL.rfl')) | exact op_moveE (Ev.rfl' rfl))) ?_ | refine JL_i rfl rfl rfl (fun hp hg => (by have hpg := Bool.and_eq_true_iff.2 ⟨hp, hg⟩; have hg0 := hg; (try simp at hg); first | exact op_moveE (Ev.sub rfl (SubL.iteT (by first | assumption | (simp; done) | (simp; omega) | (simp_all; done)) SubL.rfl')) | exact op_moveE (Ev.rfl' rfl))) ?_)
  (first | refine JL_i0 rfl rfl rfl (fun hg => (by have hg0 := hg; (try simp at hg); exact op_eql evG evG)) ?_ | refine JL_i rfl rfl rfl (fun hp hg => (by have hpg := Bool.and_eq_true_iff.2 ⟨hp, hg⟩; have hg0 := hg; (try simp at hg); exact op_eql evG evG)) ?_)
  refine JL_1 rfl (op_and (Ev.rfl' rfl) rfl (fun h => by first | exact SubL.rfl' | exact SubL.iteT (by first | (rw [h]; rfl) | (simp_all; done)) SubL.rfl')) ?_
  refine JL_1 rfl (op_move rfl) ?_
  (first | refine JL_i0 rfl rfl rfl (fun hg => (by have hg0 := hg; (try simp at hg); first | exact op_fieldPtr (k := 3) evG rfl rfl rfl rfl | exact op_fieldRefN (k := 3) evG rfl rfl rfl rfl nrmT)) ?_ | refine JL_i rfl rfl rfl (fun hp hg => (by have hpg := Bool.and_eq_true_iff.2 ⟨hp, hg⟩; have hg0 := hg; (try simp at hg); first | exact op_fieldPtr (k := 3) evG rfl rfl rfl rfl | exact op_fieldRefN (k := 3) evG rfl rfl rfl rfl nrmT)) ?_)
  (first | refine JL_i0 rfl rfl rfl (fun hg => (by have hg0 := hg; (try simp at hg); first | exact op_loadRefsN (n := 2) evG rfl rfl rfl (by rfl) nrmT | exact op_loadPtrsN (n := 2) evG memT (by rfl) (by rfl) (by rfl) (by rfl) nrmT)) ?_ | refine JL_i rfl rfl rfl (fun hp hg => (by have hpg := Bool.and_eq_true_iff.2 ⟨hp, hg⟩; have hg0 := hg; (try simp at hg); first | exact op_loadRefsN (n := 2) evG rfl rfl rfl (by rfl) nrmT | exact op_loadPtrsN (n := 2) evG memT (by rfl) (by rfl) (by rfl) (by rfl) nrmT)) ?_)
  (first | refine JL_i0 rfl rfl rfl (fun hg => (by have hg0 := hg; (try simp at hg); first | exact op_loadRefsN (n := 2) evG rfl rfl rfl (by rfl) nrmT | exact op_loadPtrsN (n := 2) evG memT (by rfl) (by rfl) (by rfl) (by rfl) nrmT)) ?_ | refine JL_i rfl rfl rfl (fun hp hg => (by have hpg := Bool.and_eq_true_iff.2 ⟨hp, hg⟩; have hg0 := hg; (try simp at hg); first | exact op_loadRefsN (n := 2) evG rfl rfl rfl (by rfl) nrmT | exact op_loadPtrsN (n := 2) evG memT (by rfl) (by rfl) (by rfl) (by rfl) nrmT)) ?_)
  (first | refine JL_i0 rfl rfl rfl (fun hg => (by have hg0 := hg; (try simp at hg); exact op_call Try.call62 (SameView_ok _ _ _ _) ⟨evS, ⟨evS, trivial⟩⟩)) ?_ | refine JL_i rfl rfl rfl (fun hp hg => (by have hpg := Bool.and_eq_true_iff.2 ⟨hp, hg⟩; have hg0 := hg; (try simp at hg); exact op_call Try.call62 (SameView_ok _ _ _ _) ⟨evS, ⟨evS, trivial⟩⟩)) ?_)
  refine JL_1 rfl (op_and (Ev.rfl' rfl) rfl (fun h => by first | exact SubL.rfl' | exact SubL.iteT (by first | (rw [h]; rfl) | (simp_all; done)) SubL.rfl')) ?_
  refine JL_1 rfl (op_move rfl) ?_
  (first | refine JL_i0 rfl rfl rfl (fun hg => (by have hg0 := hg; (try simp at hg); first | exact op_fieldPtr (k := 5) evG rfl rfl rfl rfl | exact op_fieldRefN (k := 5) evG rfl rfl rfl rfl nrmT)) ?_ | refine JL_i rfl rfl rfl (fun hp hg => (by have hpg := Bool.and_eq_true_iff.2 ⟨hp, hg⟩; have hg0 := hg; (try simp at hg); first | exact op_fieldPtr (k := 5) evG rfl rfl rfl rfl | exact op_fieldRefN (k := 5) evG rfl rfl rfl rfl nrmT)) ?_)
  (first | refine JL_i0 rfl rfl rfl (fun hg => (by have hg0 := hg; (try simp at hg); first | exact op_loadRef evG rfl rfl rfl | exact op_loadPtr evG memT (by rfl) (by rfl) (by rfl))) ?_ | refine JL_i rfl rfl rfl (fun hp hg => (by have hpg := Bool.and_eq_true_iff.2 ⟨hp, hg⟩; have hg0 := hg; (try simp at hg); first | exact op_loadRef evG rfl rfl rfl | exact op_loadPtr evG memT (by rfl) (by rfl) (by rfl))) ?_)
  (first | refine JL_i0 rfl rfl rfl (fun hg => (by have hg0 := hg; (try simp at hg); first | exact op_moveE (Ev.sub rfl (SubL.iteT (by first | assumption | (simp; done) | (simp; omega) | (simp_all; done)) SubL.rfl')) | exact op_moveE (Ev.rfl' rfl))) ?_ | refine JL_i rfl rfl rfl (fun hp hg => (by have hpg := Bool.and_eq_true_iff.2 ⟨hp, hg⟩; have hg0 := hg; (try simp at hg); first | exact op_moveE (Ev.sub rfl (SubL.iteT (by first | assumption | (simp; done) | (simp; omega) | (simp_all; done)) SubL.rfl')) | exact op_moveE (Ev.rfl' rfl))) ?_)
  (first | refine JL_i0 rfl rfl rfl (fun hg => (by have hg0 := hg; (try simp at hg); exact op_call Try.call48 (sameSeen_ok _ _) ⟨evS, ⟨evS, trivial⟩⟩)) ?_ | refine JL_i rfl rfl rfl (fun hp hg => (by have hpg := Bool.and_eq_true_iff.2 ⟨hp, hg⟩; have hg0 := hg; (try simp at hg); exact op_call Try.call48 (sameSeen_ok _ _) ⟨evS, ⟨evS, trivial⟩⟩)) ?_)
  refine JL_1 rfl (op_and (Ev.rfl' rfl) rfl (fun h => by first | exact SubL.rfl' | exact SubL.iteT (by first | (rw [h]; rfl) | (simp_all; done)) SubL.rfl')) ?_
  refine JL_1 rfl (op_move rfl) ?_
  (first | refine JL_i0 rfl rfl rfl (fun hg => (by have hg0 := hg; (try simp at hg); first | exact op_fieldPtr (k := 6) evG rfl rfl rfl rfl | exact op_fieldRefN (k := 6) evG rfl rfl rfl rfl nrmT)) ?_ | refine JL_i rfl rfl rfl (fun hp hg => (by have hpg := Bool.and_eq_true_iff.2 ⟨hp, hg⟩; have hg0 := hg; (try simp at hg); first | exact op_fieldPtr (k := 6) evG rfl rfl rfl rfl | exact op_fieldRefN (k := 6) evG rfl rfl rfl rfl nrmT)) ?_)
  (first | refine JL_i0 rfl rfl rfl (fun hg => (by have hg0 := hg; (try simp at hg); first | exact op_loadRef evG rfl rfl rfl | exact op_loadPtr evG memT (by rfl) (by rfl) (by rfl))) ?_ | refine JL_i rfl rfl rfl (fun hp hg => (by have hpg := Bool.and_eq_true_iff.2 ⟨hp, hg⟩; have hg0 := hg; (try simp at hg); first | exact op_loadRef evG rfl rfl rfl | exact op_loadPtr evG memT (by rfl) (by rfl) (by rfl))) ?_)
  (first | refine JL_i0 rfl rfl rfl (fun hg => (by have hg0 := hg; (try simp at hg); first | exact op_moveE (Ev.sub rfl (SubL.iteT (by first | assumption | (simp; done) | (simp; omega) | (simp_all; done)) SubL.rfl')) | exact op_moveE (Ev.rfl' rfl))) ?_ | refine JL_i rfl rfl rfl (fun hp hg => (by have hpg := Bool.and_eq_true_iff.2 ⟨hp, hg⟩; have hg0 := hg; (try simp at hg); first | exact op_moveE (Ev.sub rfl (SubL.iteT (by first | assumption | (simp; done) | (simp; omega) | (simp_all; done)) SubL.rfl')) | exact op_moveE (Ev.rfl' rfl))) ?_)
  (first | refine JL_i0 rfl rfl rfl (fun hg => (by have hg0 := hg; (try simp at hg); exact op_call Try.call33 (SamePages_ok _ _) ⟨evS, ⟨evS, trivial⟩⟩)) ?_ | refine JL_i rfl rfl rfl (fun hp hg => (by have hpg := Bool.and_eq_true_iff.2 ⟨hp, hg⟩; have hg0 := hg; (try simp at hg); exact op_call Try.call33 (SamePages_ok _ _) ⟨evS, ⟨evS, trivial⟩⟩)) ?_)
  refine JL_1 rfl (op_and (Ev.rfl' rfl) rfl (fun h => by first | exact SubL.rfl' | exact SubL.iteT (by first | (rw [h]; rfl) | (simp_all; done)) SubL.rfl')) ?_
  refine JL_1 rfl (op_assign rfl) ?_
  refine JL_nil ?_
  refine JQ_then (JC_ret ?_)
  refine JQ_ret1 Try.results12 rfl () (SubL.eq ?_) (List.nil_sublist _)
  simp
end Go.Proofs.Ytpfojangcgffkaa

/- Readers of arrays. Own work. -/
namespace Go.Proofs.Ytpfojangcgffkaa
open Go.RowKit Go.ChangeShapes Go.WideShapes Go.ChangeAt
set_option linter.unusedVariables false
set_option linter.unusedSimpArgs false
section
variable {H : Type} {enc : TypeId × Value → H} {P : Program} {w : World} {base : Nat} {sp : Nat → Bool} {held : Bool}
theorem flat_len {α : Type} (T : Ty α) (xs : List α) : (xs.flatMap T.cells).length = xs.length * T.size := by
  induction xs with
  | nil => simp
  | cons x xs ih => rw [List.flatMap_cons, List.length_append, ih, T.len, List.length_cons, Nat.add_mul]; omega
def tArr {α : Type} (n : Nat) (T : Ty α) : Ty {xs : List α // xs.length = n} := ⟨n * T.size, fun xs => xs.1.flatMap T.cells, fun xs => by rw [flat_len, xs.2]⟩
theorem alls_pieces {α : Type} {T : Ty α} {φ : Fz} (A : Nat → α) : ∀ (n : Nat) (cs : List Value), cs.length = n * T.size → (∀ i, i < n → Alls φ (T.cells (A i)) ((cs.drop (i * T.size)).take T.size)) → Alls φ (((List.range n).map A).flatMap T.cells) cs
  | 0, cs, hl, _ => by
    have : cs = [] := List.eq_nil_of_length_eq_zero (by omega)
    subst this; trivial
  | n + 1, cs, hl, h => by
    have e2 : (n + 1) * T.size = n * T.size + T.size := by rw [Nat.add_mul, Nat.one_mul]
    rw [e2] at hl
    have h1 := alls_pieces (T := T) A n (cs.take (n * T.size)) (by rw [List.length_take, hl]; omega) fun i hi => by
      have h2 := h i (by omega)
      have e : ((cs.take (n * T.size)).drop (i * T.size)).take T.size = (cs.drop (i * T.size)).take T.size := by
        rw [List.drop_take, List.take_take]
        congr 1
        have : (i + 1) * T.size ≤ n * T.size := Nat.mul_le_mul_right _ hi
        rw [Nat.add_mul] at this
        omega
      rw [e]; exact h2
    have h3 := h n (by omega)
    rw [List.take_of_length_le (by rw [List.length_drop, hl]; omega)] at h3
    rw [List.range_succ, List.map_append, List.flatMap_append]
    have h4 := h1.append h3
    rw [List.take_append_drop] at h4
    simpa using h4
theorem rds_array {α : Type} {T : Ty α} {R : α → Prop} {t e : TypeId} {n : Nat} (ht : P.underlying t = some (.array n e)) (hc : P.cellsOf e = T.size) (hct : P.cellsOf t = n * T.size) (hn : Nat.blt 0 n = true) (he : Rds enc P w base sp held e T R) :
    Rds enc P w base sp held t (tArr n T) (fun xs => ∀ a ∈ xs.1, R a) := by
  intro fuel cs x h
  obtain ⟨xs, m, _, _, hlen, hxs, hf⟩ := DataW.trod_array ht h
  rw [hct] at hlen
  rw [hc] at hf
  have key : ∀ i, i < n → ∃ y : α, Alls (phi w) (T.cells y) ((cs.drop (i * T.size)).take T.size) ∧ ones ((cs.drop (i * T.size)).take T.size) ∧ R y := fun i hi => by
    have h1 := hf i hi
    rw [List.getElem?_eq_getElem (by omega)] at h1
    exact he _ _ _ h1
  have hn' : 0 < n := Nat.le_of_ble_eq_true hn
  obtain ⟨y0, _, _⟩ := key 0 hn'
  have : Inhabited α := ⟨y0⟩
  obtain ⟨A, hA⟩ := Go.Deep.choose_lt key
  refine ⟨⟨(List.range n).map A, by simp⟩, alls_pieces A n cs hlen fun i hi => (hA i hi).1, ?_, fun a ha => ?_⟩
  · have hone : ∀ k, k ≤ n → ones (cs.take (k * T.size)) := fun k => by
      induction k with
      | zero => intro _ u hu; simp at hu
      | succ k ih =>
        intro hk u hu
        rw [Nat.add_mul, Nat.one_mul, List.take_add] at hu
        rcases List.mem_append.1 hu with hu | hu
        · exact ih (by omega) u hu
        · exact (hA k (by omega)).2.1 u hu
    have := hone n (Nat.le_refl _)
    rwa [List.take_of_length_le (by omega)] at this
  · obtain ⟨i, hi, rfl⟩ := List.mem_map.1 ha
    exact (hA i (List.mem_range.1 hi)).2.2
end
end Go.Proofs.Ytpfojangcgffkaa

/- The reader of pages. Own work. -/
namespace Go.Proofs.Ytpfojangcgffkaa
open Go.RowKit Go.ChangeShapes Go.WideShapes Go.ChangeAt
set_option linter.unusedVariables false
set_option linter.unusedSimpArgs false
set_option maxRecDepth 100000
section
variable {H : Type} {enc : TypeId × Value → H} {w : World} {base : Nat} {sp : Nat → Bool} {held : Bool}
def Pg.wf (p : Pg) : Prop := I64ok p.l
theorem c9_Pg : Try.prog.cellsOf 25 = 9 := by kernel_rfl
theorem c9_A7 : Try.prog.cellsOf 23 = 7 := by kernel_rfl
theorem c9_u64 : Try.prog.cellsOf 22 = 1 := by kernel_rfl
theorem c9_int : Try.prog.cellsOf 3 = 1 := by kernel_rfl
theorem rds_Pg : Rds enc Try.prog w base sp held 25 tPg Pg.wf := by
  intro fuel cs x h
  obtain ⟨xs, n, _, _, hlen, hxs, hf⟩ := DataW.trod_struct Try.underlying25 h
  rw [c9_Pg] at hlen
  match cs, hlen with
  | [c0, c1, c2, c3, c4, c5, c6, c7, c8], _ =>
    match xs, hxs with
    | [x0, x1, x2], _ =>
      have f0 : DataW.trod enc Try.prog w base sp held n 3 (([c0, c1, c2, c3, c4, c5, c6, c7, c8].drop 0).take (Try.prog.cellsOf 3)) = some x0 := hf 0 _ rfl
      have f1 : DataW.trod enc Try.prog w base sp held n 22 (([c0, c1, c2, c3, c4, c5, c6, c7, c8].drop 1).take (Try.prog.cellsOf 22)) = some x1 := hf 1 _ rfl
      have f2 : DataW.trod enc Try.prog w base sp held n 23 (([c0, c1, c2, c3, c4, c5, c6, c7, c8].drop 2).take (Try.prog.cellsOf 23)) = some x2 := hf 2 _ rfl
      rw [c9_int] at f0
      rw [c9_u64] at f1
      rw [c9_A7] at f2
      obtain ⟨l, g0, o0, w0⟩ := (rds_i64 Try.underlying3) _ _ _ f0
      obtain ⟨hd, g1, o1, _⟩ := (rds_u64 Try.underlying22) _ _ _ f1
      obtain ⟨⟨ds, hl⟩, g2, o2, _⟩ := (rds_array Try.underlying23 (T := tU64) c9_u64 c9_A7 rfl (rds_u64 Try.underlying22)) _ _ _ f2
      match ds, hl with
      | [d0, d1, d2, d3, d4, d5, d6], _ => exact ⟨⟨l, hd, d0, d1, d2, d3, d4, d5, d6⟩, (g0.append g1).append g2, ones_app (ones_app o0 o1) o2, w0⟩
end
end Go.Proofs.Ytpfojangcgffkaa

/- The reader of operations. Own work. -/
namespace Go.Proofs.Ytpfojangcgffkaa
open Go.RowKit Go.ChangeShapes Go.WideShapes Go.ChangeAt
set_option linter.unusedVariables false
set_option linter.unusedSimpArgs false
set_option maxRecDepth 100000
section
variable {H : Type} {enc : TypeId × Value → H} {w : World} {base : Nat} {sp : Nat → Bool} {held : Bool}
def Oq.wf (o : Oq) : Prop := I64ok o.kind ∧ ∀ n ∈ o.lines, I64ok n
theorem c3_Op : Try.prog.cellsOf 121 = 3 := by kernel_rfl
theorem c1_SIo : Try.prog.cellsOf 81 = 1 := by kernel_rfl
theorem c1_SU : Try.prog.cellsOf 119 = 1 := by kernel_rfl
theorem rds_Op : Rds enc Try.prog w base sp held 121 tOp Oq.wf := by
  intro fuel cs x h
  obtain ⟨xs, n, _, _, hlen, hxs, hf⟩ := DataW.trod_struct Try.underlying121 h
  rw [c3_Op] at hlen
  match cs, hlen with
  | [c0, c1, c2], _ =>
    match xs, hxs with
    | [x0, x1, x2], _ =>
      have f0 : DataW.trod enc Try.prog w base sp held n 3 (([c0, c1, c2].drop 0).take (Try.prog.cellsOf 3)) = some x0 := hf 0 _ rfl
      have f1 : DataW.trod enc Try.prog w base sp held n 81 (([c0, c1, c2].drop 1).take (Try.prog.cellsOf 81)) = some x1 := hf 1 _ rfl
      have f2 : DataW.trod enc Try.prog w base sp held n 119 (([c0, c1, c2].drop 2).take (Try.prog.cellsOf 119)) = some x2 := hf 2 _ rfl
      rw [c9_int] at f0
      rw [c1_SIo] at f1
      rw [c1_SU] at f2
      obtain ⟨a, g0, o0, w0⟩ := (rds_i64 Try.underlying3) _ _ _ f0
      obtain ⟨b, g1, o1, w1⟩ := (rds_slice Try.underlying81 c9_int rfl (rds_i64 Try.underlying3)) _ _ _ f1
      obtain ⟨d, g2, o2, w2⟩ := (rds_slice Try.underlying119 c9_u64 rfl (rds_u64 Try.underlying22)) _ _ _ f2
      exact ⟨⟨a, b, d⟩, (g0.append g1).append g2, ones_app (ones_app o0 o1) o2, w0, w1⟩
end
end Go.Proofs.Ytpfojangcgffkaa
