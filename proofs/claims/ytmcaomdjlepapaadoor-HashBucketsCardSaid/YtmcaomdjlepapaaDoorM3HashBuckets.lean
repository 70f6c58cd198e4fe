/- Texts of this claim, laid together (part 3): walks of functions, what they compute, and plain laws of it. Own work. -/
import Derived.Test.YtmcaomdjlepapaaDoorM2HashBuckets
/- Contracts: which roots are valid. Own work. -/
namespace Go.Proofs.YtmcaomdjlepapaaDoor
open Go.RowKit
set_option linter.unusedVariables false
set_option linter.unusedSimpArgs false
set_option maxRecDepth 100000
def okAt (d i : Int) (p : Pt) : Bool := fieldB p && !(decide (p = Pt.nil) && decide (i < pagesV d))
def okR (r : Rt) (j : Nat) : Bool := match j with
  | 0 => okAt r.depth 0 r.p0
  | 1 => okAt r.depth 1 r.p1
  | 2 => okAt r.depth 2 r.p2
  | _ => okAt r.depth 3 r.p3
def headR (r : Rt) : Bool := validP r.first && decide (0 ≤ r.depth) && decide (r.depth ≤ 5)
def rootB (r : Rt) : Bool := if r.first = Pt.nil then decide (r = Rt.nil) else headR r && okR r 0 && okR r 1 && okR r 2 && okR r 3
theorem okAt_no {d i : Int} {p : Pt} (h : (!fieldB p || decide (p = Pt.nil) && decide (i < pagesV d)) = true) : okAt d i p = false := by
  unfold okAt
  revert h
  cases fieldB p <;> cases decide (p = Pt.nil) <;> cases decide (i < pagesV d) <;> simp
theorem okAt_yes {d i : Int} {p : Pt} (h : (!fieldB p || decide (p = Pt.nil) && decide (i < pagesV d)) = false) : okAt d i p = true := by
  unfold okAt
  revert h
  cases fieldB p <;> cases decide (p = Pt.nil) <;> cases decide (i < pagesV d) <;> simp
theorem okAt_noR {d i : Int} {p : Pt} (h : (!fieldB p || decide (i < pagesV d) && decide (p = Pt.nil)) = true) : okAt d i p = false := by
  unfold okAt
  revert h
  cases fieldB p <;> cases decide (p = Pt.nil) <;> cases decide (i < pagesV d) <;> simp
theorem okAt_yesR {d i : Int} {p : Pt} (h : (!fieldB p || decide (i < pagesV d) && decide (p = Pt.nil)) = false) : okAt d i p = true := by
  unfold okAt
  revert h
  cases fieldB p <;> cases decide (p = Pt.nil) <;> cases decide (i < pagesV d) <;> simp
theorem all_succ {Q : Nat → Bool} {k : Nat} (h : ∀ j, j < k → Q j = true) (h1 : Q k = true) : ∀ j, j < k + 1 → Q j = true := fun j hj => by
  by_cases e : j = k
  · rw [e]; exact h1
  · exact h j (by omega)
theorem root_head {r : Rt} (hn : r.first ≠ Pt.nil) (h : headR r = false) : rootB r = false := by unfold rootB; rw [if_neg hn, h]; rfl
theorem root_bad {r : Rt} (hn : r.first ≠ Pt.nil) (h : okR r 0 = false ∨ okR r 1 = false ∨ okR r 2 = false ∨ okR r 3 = false) : rootB r = false := by
  unfold rootB
  rw [if_neg hn]
  rcases h with h | h | h | h <;> rw [h] <;> simp
theorem root_ok {r : Rt} (hn : r.first ≠ Pt.nil) (hh : headR r = true) (h : ∀ j, j < 4 → okR r j = true) : rootB r = true := by
  unfold rootB
  rw [if_neg hn, hh, h 0 (by omega), h 1 (by omega), h 2 (by omega), h 3 (by omega)]
  rfl
-- (bodega/hashindex.Root).valid: function 28
set_option maxHeartbeats 4000000 in
theorem RootValid_ok (r : Rt) : FnK Tryd.prog 28 gNone [IsRt r] (Is (.bool (rootB r))) := by
  refine Fn.enterN Tryd.func28 Tryd.ntmps28 rfl rfl ?_
  intro c hX
  refine JC_seq ?_
  refine JC_region ?_
  (refine JL_n rfl (op_box (Ev.rfl' rfl) cellsT) ?_; intro i1)
  refine JL_1 rfl (op_assign rfl) ?_
  refine JL_nil ?_
  refine JQ_then (JC_seq (JC_seq ?_))
  refine JC_region ?_
  refine JL_1 rfl (by first | exact op_fieldPtr (k := 0) (Ev.rfl' rfl) rfl rfl rfl rfl | exact op_fieldRefN (k := 0) (Ev.rfl' rfl) rfl rfl rfl rfl nrmT) ?_
  refine JL_1 rfl (by first | exact op_loadRefsN (n := 2) (Ev.rfl' rfl) rfl rfl rfl (by rfl) nrmT | exact op_loadPtrsN (n := 2) (Ev.rfl' rfl) memT (by rfl) (by rfl) (by rfl) (by rfl) nrmT) ?_
  refine JL_1 rfl (op_loadRefsN (n := 2) (Ev.sub rfl (SubL.fact memT)) rfl rfl rfl (by rfl) nrmT) ?_
  refine JL_1 rfl (op_cmpA (vs := Pt.cells r.first) (ws := Pt.cells Pt.nil) (Ev.rfl' rfl) (Ev.rfl' rfl) (eqPt_guard _ _ _ r.first Pt.nil) (eqPt_eql r.first Pt.nil)) ?_
  refine JL_nil ?_
  refine JQ_then ?_
  refine JC_cond (Ev.rfl' rfl) (fun h1 => ?_) (fun h1 => ?_)
  · have hn : r.first = Pt.nil := of_decide_eq_true h1
    refine JC_seq ?_
    refine JC_region ?_
    refine JL_1 rfl (by first | exact op_loadRefsN (n := 11) (Ev.rfl' rfl) rfl rfl rfl (by rfl) nrmT | exact op_loadPtrsN (n := 11) (Ev.rfl' rfl) memT (by rfl) (by rfl) (by rfl) (by rfl) nrmT) ?_
    refine JL_1 rfl (op_buildN (qs := []) rfl rfl rfl rfl trivial (by rfl) nrmT) ?_
    refine JL_1 rfl (op_cmpA (vs := Rt.cells r) (ws := Rt.cells Rt.nil) (Ev.rfl' rfl) (Ev.rfl' rfl) (eqRt_guard _ _ _ r Rt.nil) (eqRt_eql r Rt.nil)) ?_
    refine JL_1 rfl (op_assign rfl) ?_
    refine JL_nil ?_
    refine JQ_then (JC_ret (JQ_then_ret ?_))
    refine JQ_ret1 Tryd.results28 rfl () (SubL.eq ?_) (List.nil_sublist _)
    unfold rootB; rw [if_pos hn]
  have hn : r.first ≠ Pt.nil := of_decide_eq_false h1
  refine JC_skip (JQ_then (JC_seq (JC_seq ?_)))
  refine JC_region ?_
  refine JL_1 rfl (by first | exact op_fieldPtr (k := 0) (Ev.rfl' rfl) rfl rfl rfl rfl | exact op_fieldRefN (k := 0) (Ev.rfl' rfl) rfl rfl rfl rfl nrmT) ?_
  refine JL_1 rfl (by first | exact op_loadRefsN (n := 2) (Ev.rfl' rfl) rfl rfl rfl (by rfl) nrmT | exact op_loadPtrsN (n := 2) (Ev.rfl' rfl) memT (by rfl) (by rfl) (by rfl) (by rfl) nrmT) ?_
  refine JL_1 rfl (op_call Tryd.call50 (ValidP_ok _) ⟨evS, trivial⟩) ?_
  refine JL_1 rfl (op_not (Ev.rfl' rfl)) ?_
  refine JL_1 rfl (op_move rfl) ?_
  (first | refine JL_i0 rfl rfl rfl (fun hg => (by have hg0 := hg; (try simp at hg); first | exact op_fieldPtr (k := 2) evG rfl rfl rfl rfl | exact op_fieldRefN (k := 2) evG rfl rfl rfl rfl nrmT)) ?_ | refine JL_i rfl rfl rfl (fun hp hg => (by have hpg := Bool.and_eq_true_iff.2 ⟨hp, hg⟩; have hg0 := hg; (try simp at hg); first | exact op_fieldPtr (k := 2) evG rfl rfl rfl rfl | exact op_fieldRefN (k := 2) evG rfl rfl rfl rfl nrmT)) ?_)
  (first | refine JL_i0 rfl rfl rfl (fun hg => (by have hg0 := hg; (try simp at hg); first | exact op_loadRef evG rfl rfl rfl | exact op_loadPtr evG memT (by rfl) (by rfl) (by rfl))) ?_ | refine JL_i rfl rfl rfl (fun hp hg => (by have hpg := Bool.and_eq_true_iff.2 ⟨hp, hg⟩; have hg0 := hg; (try simp at hg); first | exact op_loadRef evG rfl rfl rfl | exact op_loadPtr evG memT (by rfl) (by rfl) (by rfl))) ?_)
  (first | refine JL_i0 rfl rfl rfl (fun hg => (by have hg0 := hg; (try simp at hg); exact op_lss evG evG)) ?_ | refine JL_i rfl rfl rfl (fun hp hg => (by have hpg := Bool.and_eq_true_iff.2 ⟨hp, hg⟩; have hg0 := hg; (try simp at hg); exact op_lss evG evG)) ?_)
  refine JL_1 rfl (op_or (Ev.rfl' rfl) rfl (fun h => by first | exact SubL.rfl' | exact SubL.iteT (by first | (rw [h]; rfl) | (simp_all; done)) SubL.rfl')) ?_
  refine JL_1 rfl (op_move rfl) ?_
  (first | refine JL_i0 rfl rfl rfl (fun hg => (by have hg0 := hg; (try simp at hg); first | exact op_fieldPtr (k := 2) evG rfl rfl rfl rfl | exact op_fieldRefN (k := 2) evG rfl rfl rfl rfl nrmT)) ?_ | refine JL_i rfl rfl rfl (fun hp hg => (by have hpg := Bool.and_eq_true_iff.2 ⟨hp, hg⟩; have hg0 := hg; (try simp at hg); first | exact op_fieldPtr (k := 2) evG rfl rfl rfl rfl | exact op_fieldRefN (k := 2) evG rfl rfl rfl rfl nrmT)) ?_)
  (first | refine JL_i0 rfl rfl rfl (fun hg => (by have hg0 := hg; (try simp at hg); first | exact op_loadRef evG rfl rfl rfl | exact op_loadPtr evG memT (by rfl) (by rfl) (by rfl))) ?_ | refine JL_i rfl rfl rfl (fun hp hg => (by have hpg := Bool.and_eq_true_iff.2 ⟨hp, hg⟩; have hg0 := hg; (try simp at hg); first | exact op_loadRef evG rfl rfl rfl | exact op_loadPtr evG memT (by rfl) (by rfl) (by rfl))) ?_)
  (first | refine JL_i0 rfl rfl rfl (fun hg => (by have hg0 := hg; (try simp at hg); exact op_gtr evG evG)) ?_ | refine JL_i rfl rfl rfl (fun hp hg => (by have hpg := Bool.and_eq_true_iff.2 ⟨hp, hg⟩; have hg0 := hg; (try simp at hg); exact op_gtr evG evG)) ?_)
  refine JL_1 rfl (op_or (Ev.rfl' rfl) rfl (fun h => by first | exact SubL.rfl' | exact SubL.iteT (by first | (rw [h]; rfl) | (simp_all; done)) SubL.rfl')) ?_
  refine JL_nil ?_
  refine JQ_then ?_
  refine JC_cond (Ev.rfl' rfl) (fun h3 => ?_) (fun h3 => ?_)
  · refine JC_seq ?_
    refine JC_region ?_
    refine JL_1 rfl (op_assign rfl) ?_
    refine JL_nil ?_
    refine JQ_then (JC_ret (JQ_then_ret ?_))
    refine JQ_ret1 Tryd.results28 rfl () (SubL.eq ?_) (List.nil_sublist _)
    rw [root_head hn (by unfold headR; revert h3; cases validP r.first <;> simp <;> omega)]
  have hh : headR r = true := by unfold headR; revert h3; cases validP r.first <;> simp <;> omega
  have hd : 0 ≤ r.depth ∧ r.depth ≤ 5 := by unfold headR at hh; simp at hh; omega
  clear h3
  refine JC_skip (JQ_then (JC_seq (JC_seq ?_)))
  refine JC_region ?_
  refine JL_1 rfl (by first | exact op_fieldPtr (k := 3) (Ev.rfl' rfl) rfl rfl rfl rfl | exact op_fieldRefN (k := 3) (Ev.rfl' rfl) rfl rfl rfl rfl nrmT) ?_
  refine JL_1 rfl (by first | exact op_loadRefsN (n := 8) (Ev.rfl' rfl) rfl rfl rfl (by rfl) nrmT | exact op_loadPtrsN (n := 8) (Ev.rfl' rfl) memT (by rfl) (by rfl) (by rfl) (by rfl) nrmT) ?_
  refine JL_1 rfl (op_move rfl) ?_
  refine JL_nil ?_
  refine JQ_then (JC_block ?_)
  refine JC_loopP (fun k : Nat => k ≤ 4 ∧ ∀ j, j < k → okR r j = true) (fun k => [(1, Is (.pointer (some ⟨i1, 0, none⟩))), (27, IsAgg [Is (.int .i64 r.p0.line), Is (.int .i64 r.p0.gen), Is (.int .i64 r.p1.line), Is (.int .i64 r.p1.gen), Is (.int .i64 r.p2.line), Is (.int .i64 r.p2.gen), Is (.int .i64 r.p3.line), Is (.int .i64 r.p3.gen)]), (28, Is (.int .i64 (k : Nat)))]) (fun _ => [blk i1 30 (tRt.cells r), gNone]) (fun k => 4 - k) 0 ⟨by omega, fun j h => by omega⟩ esubT lessT ?_
  rintro k ⟨hk, hko⟩
  refine JC_seq ?_
  refine JC_region ?_
  refine JL_1 rfl (op_lss (Ev.rfl' rfl) (Ev.rfl' rfl)) ?_
  refine JL_nil ?_
  refine JQ_then (JC_seq ?_)
  refine JC_cond (Ev.rfl' rfl) (fun h6 => ?_) (fun h6 => ?_)
  · have hk4 : k = 0 ∨ k = 1 ∨ k = 2 ∨ k = 3 := by have := of_decide_eq_true h6; omega
    clear h6
    rcases hk4 with rfl | rfl | rfl | rfl
    all_goals
      refine JC_skip (JQ_then (JC_seq (JC_block (JC_seq ?_))))
      refine JC_region ?_
      refine JL_1 rfl (op_move rfl) ?_
      refine JL_1 rfl (op_indexV (k := _) (sz := 2) (Ev.rfl' rfl) (Ev.rfl' rfl) rfl rfl rfl rfl idxT (by first | decide | omega) nrmT) ?_
      (refine JL_n rfl (op_allocN rfl nrmT rfl) ?_; intro i4)
      refine JL_1 rfl (op_assign rfl) ?_
      refine JL_s0 (op_storeN (Ev.rfl' rfl) (Ev.rfl' rfl) cellsT replT nrmT (by rfl) (by rfl) (by rfl)) ?_
      refine JL_nil ?_
      refine JQ_then (JC_seq ?_)
      refine JC_region ?_
      refine JL_1 rfl (by first | exact op_loadRefsN (n := 2) (Ev.rfl' rfl) rfl rfl rfl (by rfl) nrmT | exact op_loadPtrsN (n := 2) (Ev.rfl' rfl) memT (by rfl) (by rfl) (by rfl) (by rfl) nrmT) ?_
      refine JL_1 rfl (by first | ((refine op_callK Tryd.call40 (isField_ok _) ⟨evS, trivial⟩ memT))) ?_
      refine JL_1 rfl (op_not (Ev.rfl' rfl)) ?_
      refine JL_1 rfl (op_move rfl) ?_
      (first | refine JL_i0 rfl rfl rfl (fun hg => (by have hg0 := hg; (try simp at hg); first | exact op_loadRefsN (n := 2) evG rfl rfl rfl (by rfl) nrmT | exact op_loadPtrsN (n := 2) evG memT (by rfl) (by rfl) (by rfl) (by rfl) nrmT)) ?_ | refine JL_i rfl rfl rfl (fun hp hg => (by have hpg := Bool.and_eq_true_iff.2 ⟨hp, hg⟩; have hg0 := hg; (try simp at hg); first | exact op_loadRefsN (n := 2) evG rfl rfl rfl (by rfl) nrmT | exact op_loadPtrsN (n := 2) evG memT (by rfl) (by rfl) (by rfl) (by rfl) nrmT)) ?_)
      (first | refine JL_i0 rfl rfl rfl (fun hg => (by have hg0 := hg; (try simp at hg); exact op_loadRefsN (n := 2) (Ev.sub rfl (SubL.fact memT)) rfl rfl rfl (by rfl) nrmT)) ?_ | refine JL_i rfl rfl rfl (fun hp hg => (by have hpg := Bool.and_eq_true_iff.2 ⟨hp, hg⟩; have hg0 := hg; (try simp at hg); exact op_loadRefsN (n := 2) (Ev.sub rfl (SubL.fact memT)) rfl rfl rfl (by rfl) nrmT)) ?_)
      (first | refine JL_i0 rfl rfl rfl (fun hg => (by have hg0 := hg; (try simp at hg); first | exact op_cmpA (vs := Pt.cells r.p0) (ws := Pt.cells Pt.nil) evG evG (eqPt_guard _ _ _ r.p0 Pt.nil) (eqPt_eql r.p0 Pt.nil) | exact op_cmpA (vs := Pt.cells r.p1) (ws := Pt.cells Pt.nil) evG evG (eqPt_guard _ _ _ r.p1 Pt.nil) (eqPt_eql r.p1 Pt.nil) | exact op_cmpA (vs := Pt.cells r.p2) (ws := Pt.cells Pt.nil) evG evG (eqPt_guard _ _ _ r.p2 Pt.nil) (eqPt_eql r.p2 Pt.nil) | exact op_cmpA (vs := Pt.cells r.p3) (ws := Pt.cells Pt.nil) evG evG (eqPt_guard _ _ _ r.p3 Pt.nil) (eqPt_eql r.p3 Pt.nil))) ?_ | refine JL_i rfl rfl rfl (fun hp hg => (by have hpg := Bool.and_eq_true_iff.2 ⟨hp, hg⟩; have hg0 := hg; (try simp at hg); first | exact op_cmpA (vs := Pt.cells r.p0) (ws := Pt.cells Pt.nil) evG evG (eqPt_guard _ _ _ r.p0 Pt.nil) (eqPt_eql r.p0 Pt.nil) | exact op_cmpA (vs := Pt.cells r.p1) (ws := Pt.cells Pt.nil) evG evG (eqPt_guard _ _ _ r.p1 Pt.nil) (eqPt_eql r.p1 Pt.nil) | exact op_cmpA (vs := Pt.cells r.p2) (ws := Pt.cells Pt.nil) evG evG (eqPt_guard _ _ _ r.p2 Pt.nil) (eqPt_eql r.p2 Pt.nil) | exact op_cmpA (vs := Pt.cells r.p3) (ws := Pt.cells Pt.nil) evG evG (eqPt_guard _ _ _ r.p3 Pt.nil) (eqPt_eql r.p3 Pt.nil))) ?_)
      (first | refine JL_i0 rfl rfl rfl (fun hg => (by have hg0 := hg; (try simp at hg); first | exact op_moveE (Ev.sub rfl (SubL.iteT (by first | assumption | (simp; done) | (simp; omega) | (simp_all; done)) SubL.rfl')) | exact op_moveE (Ev.rfl' rfl))) ?_ | refine JL_i rfl rfl rfl (fun hp hg => (by have hpg := Bool.and_eq_true_iff.2 ⟨hp, hg⟩; have hg0 := hg; (try simp at hg); first | exact op_moveE (Ev.sub rfl (SubL.iteT (by first | assumption | (simp; done) | (simp; omega) | (simp_all; done)) SubL.rfl')) | exact op_moveE (Ev.rfl' rfl))) ?_)
      (first | refine JL_i0 rfl rfl rfl (fun hg => (by have hg0 := hg; (try simp at hg); first | exact op_moveE (Ev.sub rfl (SubL.iteT (by first | assumption | (simp; done) | (simp; omega) | (simp_all; done)) SubL.rfl')) | exact op_moveE (Ev.rfl' rfl))) ?_ | refine JL_i rfl rfl rfl (fun hp hg => (by have hpg := Bool.and_eq_true_iff.2 ⟨hp, hg⟩; have hg0 := hg; (try simp at hg); first | exact op_moveE (Ev.sub rfl (SubL.iteT (by first | assumption | (simp; done) | (simp; omega) | (simp_all; done)) SubL.rfl')) | exact op_moveE (Ev.rfl' rfl))) ?_)
      (first | refine JL_i0 rfl rfl rfl (fun hg => (by have hg0 := hg; (try simp at hg); first | exact op_fieldPtr (k := 2) evG rfl rfl rfl rfl | exact op_fieldRefN (k := 2) evG rfl rfl rfl rfl nrmT)) ?_ | refine JL_i rfl rfl rfl (fun hp hg => (by have hpg := Bool.and_eq_true_iff.2 ⟨hp, hg⟩; have hg0 := hg; (try simp at hg); first | exact op_fieldPtr (k := 2) evG rfl rfl rfl rfl | exact op_fieldRefN (k := 2) evG rfl rfl rfl rfl nrmT)) ?_)
      (first | refine JL_i0 rfl rfl rfl (fun hg => (by have hg0 := hg; (try simp at hg); first | exact op_loadRef evG rfl rfl rfl | exact op_loadPtr evG memT (by rfl) (by rfl) (by rfl))) ?_ | refine JL_i rfl rfl rfl (fun hp hg => (by have hpg := Bool.and_eq_true_iff.2 ⟨hp, hg⟩; have hg0 := hg; (try simp at hg); first | exact op_loadRef evG rfl rfl rfl | exact op_loadPtr evG memT (by rfl) (by rfl) (by rfl))) ?_)
      (first | refine JL_i0 rfl rfl rfl (fun hg => (by have hg0 := hg; (try simp at hg); first | ((refine op_call Tryd.call51 (pagesOf_ok _ ?_) ⟨evS, trivial⟩); all_goals (first | first | assumption | omega)))) ?_ | refine JL_i rfl rfl rfl (fun hp hg => (by have hpg := Bool.and_eq_true_iff.2 ⟨hp, hg⟩; have hg0 := hg; (try simp at hg); first | ((refine op_call Tryd.call51 (pagesOf_ok _ ?_) ⟨evS, trivial⟩); all_goals (first | first | assumption | omega)))) ?_)
      (first | refine JL_i0 rfl rfl rfl (fun hg => (by have hg0 := hg; (try simp at hg); exact op_lss evG evG)) ?_ | refine JL_i rfl rfl rfl (fun hp hg => (by have hpg := Bool.and_eq_true_iff.2 ⟨hp, hg⟩; have hg0 := hg; (try simp at hg); exact op_lss evG evG)) ?_)
      (first | refine JL_i0 rfl rfl rfl (fun hg => (by have hg0 := hg; (try simp at hg); exact op_and evG rfl (fun h => by first | exact SubL.rfl' | exact SubL.iteT (by first | (rw [h]; rfl) | (simp_all; done)) SubL.rfl'))) ?_ | refine JL_i rfl rfl rfl (fun hp hg => (by have hpg := Bool.and_eq_true_iff.2 ⟨hp, hg⟩; have hg0 := hg; (try simp at hg); exact op_and evG rfl (fun h => by first | exact SubL.rfl' | exact SubL.iteT (by first | (rw [h]; rfl) | (simp_all; done)) SubL.rfl'))) ?_)
      refine JL_1 rfl (op_or (Ev.rfl' rfl) rfl (fun h => by first | exact SubL.rfl' | exact SubL.iteT (by first | (rw [h]; rfl) | (simp_all; done)) SubL.rfl')) ?_
      refine JL_nil ?_
      refine JQ_then ?_
      refine JC_cond (Ev.rfl' rfl) (fun h8 => ?_) (fun h8 => ?_)
      · refine JC_seq ?_
        refine JC_region ?_
        refine JL_1 rfl (op_assign rfl) ?_
        refine JL_nil ?_
        refine JQ_then (JC_ret (JQ_block_ret (JQ_then_ret (JQ_then_ret (JQ_block_ret (JQ_then_ret ?_))))))
        refine JQ_ret1 Tryd.results28 rfl () (SubL.eq ?_) (List.nil_sublist _)
        rw [root_bad hn (by first | exact Or.inl (okAt_no h8) | exact Or.inr (Or.inl (okAt_no h8)) | exact Or.inr (Or.inr (Or.inl (okAt_no h8))) | exact Or.inr (Or.inr (Or.inr (okAt_no h8))))]
      refine JC_skip (JQ_block (JQ_then ?_))
      refine JC_region ?_
      refine JL_1 rfl (op_add (Ev.rfl' rfl) (Ev.rfl' rfl) wrapT) ?_
      refine JL_1 rfl (op_move rfl) ?_
      refine JL_nil ?_
      first | exact JQ_roundP 1 ⟨by omega, all_succ hko (okAt_yes h8)⟩ (by omega) esubT lessT | exact JQ_roundP 2 ⟨by omega, all_succ hko (okAt_yes h8)⟩ (by omega) esubT lessT | exact JQ_roundP 3 ⟨by omega, all_succ hko (okAt_yes h8)⟩ (by omega) esubT lessT | exact JQ_roundP 4 ⟨by omega, all_succ hko (okAt_yes h8)⟩ (by omega) esubT lessT
  have hk4 : k = 4 := by have := of_decide_eq_false h6; omega
  subst hk4
  refine JC_exit (JQ_then_exit (JQ_then_exit (JQ_hit (JQ_then (JC_seq ?_)))))
  refine JC_region ?_
  refine JL_1 rfl (op_assign rfl) ?_
  refine JL_nil ?_
  refine JQ_then (JC_ret ?_)
  refine JQ_ret1 Tryd.results28 rfl () (SubL.eq ?_) (List.nil_sublist _)
  rw [root_ok hn hh hko]
-- bodegaref23.ValidRoot: function 30
set_option maxHeartbeats 4000000 in
theorem ValidRoot_ok (r : Rt) : FnP Tryd.prog 30 [IsRt r] (Is (.bool (rootB r))) := by
  refine FnP.enter Tryd.func30 Tryd.ntmps30 rfl rfl ?_
  intro c hX
  refine JC_seq ?_
  refine JC_region ?_
  (refine JL_n rfl (op_box (Ev.rfl' rfl) cellsT) ?_; intro i1)
  refine JL_1 rfl (op_assign rfl) ?_
  refine JL_nil ?_
  refine JQ_then (JC_seq (JC_seq ?_))
  refine JC_region ?_
  refine JL_1 rfl (by first | exact op_fieldPtr (k := 0) (Ev.rfl' rfl) rfl rfl rfl rfl | exact op_fieldRefN (k := 0) (Ev.rfl' rfl) rfl rfl rfl rfl nrmT) ?_
  refine JL_1 rfl (by first | exact op_loadRefsN (n := 2) (Ev.rfl' rfl) rfl rfl rfl (by rfl) nrmT | exact op_loadPtrsN (n := 2) (Ev.rfl' rfl) memT (by rfl) (by rfl) (by rfl) (by rfl) nrmT) ?_
  refine JL_1 rfl (op_buildN (qs := []) rfl rfl rfl rfl trivial (by rfl) nrmT) ?_
  refine JL_1 rfl (op_cmpA (vs := Pt.cells r.first) (ws := Pt.cells Pt.nil) (Ev.rfl' rfl) (Ev.rfl' rfl) (eqPtR_guard _ _ _ r.first Pt.nil) (eqPtR_eql r.first Pt.nil)) ?_
  refine JL_nil ?_
  refine JQ_then ?_
  refine JC_cond (Ev.rfl' rfl) (fun h1 => ?_) (fun h1 => ?_)
  · have hn : r.first = Pt.nil := of_decide_eq_true h1
    refine JC_seq ?_
    refine JC_region ?_
    refine JL_1 rfl (by first | exact op_loadRefsN (n := 11) (Ev.rfl' rfl) rfl rfl rfl (by rfl) nrmT | exact op_loadPtrsN (n := 11) (Ev.rfl' rfl) memT (by rfl) (by rfl) (by rfl) (by rfl) nrmT) ?_
    refine JL_1 rfl (op_buildN (qs := []) rfl rfl rfl rfl trivial (by rfl) nrmT) ?_
    refine JL_1 rfl (op_cmpA (vs := Rt.cells r) (ws := Rt.cells Rt.nil) (Ev.rfl' rfl) (Ev.rfl' rfl) (eqRtR_guard _ _ _ r Rt.nil) (eqRtR_eql r Rt.nil)) ?_
    refine JL_1 rfl (op_assign rfl) ?_
    refine JL_nil ?_
    refine JQ_then (JC_ret (JQ_then_ret ?_))
    refine JQ_ret1 Tryd.results30 rfl () (SubL.eq ?_) (List.nil_sublist _)
    unfold rootB; rw [if_pos hn]
  have hn : r.first ≠ Pt.nil := of_decide_eq_false h1
  refine JC_skip (JQ_then (JC_seq (JC_seq ?_)))
  refine JC_region ?_
  refine JL_1 rfl (by first | exact op_fieldPtr (k := 0) (Ev.rfl' rfl) rfl rfl rfl rfl | exact op_fieldRefN (k := 0) (Ev.rfl' rfl) rfl rfl rfl rfl nrmT) ?_
  refine JL_1 rfl (by first | exact op_loadRefsN (n := 2) (Ev.rfl' rfl) rfl rfl rfl (by rfl) nrmT | exact op_loadPtrsN (n := 2) (Ev.rfl' rfl) memT (by rfl) (by rfl) (by rfl) (by rfl) nrmT) ?_
  refine JL_1 rfl (op_call Tryd.call52 (ValidPR_ok _) ⟨evS, trivial⟩) ?_
  refine JL_1 rfl (op_not (Ev.rfl' rfl)) ?_
  refine JL_1 rfl (op_move rfl) ?_
  (first | refine JL_i0 rfl rfl rfl (fun hg => (by have hg0 := hg; (try simp at hg); first | exact op_fieldPtr (k := 2) evG rfl rfl rfl rfl | exact op_fieldRefN (k := 2) evG rfl rfl rfl rfl nrmT)) ?_ | refine JL_i rfl rfl rfl (fun hp hg => (by have hpg := Bool.and_eq_true_iff.2 ⟨hp, hg⟩; have hg0 := hg; (try simp at hg); first | exact op_fieldPtr (k := 2) evG rfl rfl rfl rfl | exact op_fieldRefN (k := 2) evG rfl rfl rfl rfl nrmT)) ?_)
  (first | refine JL_i0 rfl rfl rfl (fun hg => (by have hg0 := hg; (try simp at hg); first | exact op_loadRef evG rfl rfl rfl | exact op_loadPtr evG memT (by rfl) (by rfl) (by rfl))) ?_ | refine JL_i rfl rfl rfl (fun hp hg => (by have hpg := Bool.and_eq_true_iff.2 ⟨hp, hg⟩; have hg0 := hg; (try simp at hg); first | exact op_loadRef evG rfl rfl rfl | exact op_loadPtr evG memT (by rfl) (by rfl) (by rfl))) ?_)
  (first | refine JL_i0 rfl rfl rfl (fun hg => (by have hg0 := hg; (try simp at hg); exact op_lss evG evG)) ?_ | refine JL_i rfl rfl rfl (fun hp hg => (by have hpg := Bool.and_eq_true_iff.2 ⟨hp, hg⟩; have hg0 := hg; (try simp at hg); exact op_lss evG evG)) ?_)
  refine JL_1 rfl (op_or (Ev.rfl' rfl) rfl (fun h => by first | exact SubL.rfl' | exact SubL.iteT (by first | (rw [h]; rfl) | (simp_all; done)) SubL.rfl')) ?_
  refine JL_1 rfl (op_move rfl) ?_
  (first | refine JL_i0 rfl rfl rfl (fun hg => (by have hg0 := hg; (try simp at hg); first | exact op_fieldPtr (k := 2) evG rfl rfl rfl rfl | exact op_fieldRefN (k := 2) evG rfl rfl rfl rfl nrmT)) ?_ | refine JL_i rfl rfl rfl (fun hp hg => (by have hpg := Bool.and_eq_true_iff.2 ⟨hp, hg⟩; have hg0 := hg; (try simp at hg); first | exact op_fieldPtr (k := 2) evG rfl rfl rfl rfl | exact op_fieldRefN (k := 2) evG rfl rfl rfl rfl nrmT)) ?_)
  (first | refine JL_i0 rfl rfl rfl (fun hg => (by have hg0 := hg; (try simp at hg); first | exact op_loadRef evG rfl rfl rfl | exact op_loadPtr evG memT (by rfl) (by rfl) (by rfl))) ?_ | refine JL_i rfl rfl rfl (fun hp hg => (by have hpg := Bool.and_eq_true_iff.2 ⟨hp, hg⟩; have hg0 := hg; (try simp at hg); first | exact op_loadRef evG rfl rfl rfl | exact op_loadPtr evG memT (by rfl) (by rfl) (by rfl))) ?_)
  (first | refine JL_i0 rfl rfl rfl (fun hg => (by have hg0 := hg; (try simp at hg); exact op_gtr evG evG)) ?_ | refine JL_i rfl rfl rfl (fun hp hg => (by have hpg := Bool.and_eq_true_iff.2 ⟨hp, hg⟩; have hg0 := hg; (try simp at hg); exact op_gtr evG evG)) ?_)
  refine JL_1 rfl (op_or (Ev.rfl' rfl) rfl (fun h => by first | exact SubL.rfl' | exact SubL.iteT (by first | (rw [h]; rfl) | (simp_all; done)) SubL.rfl')) ?_
  refine JL_nil ?_
  refine JQ_then ?_
  refine JC_cond (Ev.rfl' rfl) (fun h3 => ?_) (fun h3 => ?_)
  · refine JC_seq ?_
    refine JC_region ?_
    refine JL_1 rfl (op_assign rfl) ?_
    refine JL_nil ?_
    refine JQ_then (JC_ret (JQ_then_ret ?_))
    refine JQ_ret1 Tryd.results30 rfl () (SubL.eq ?_) (List.nil_sublist _)
    rw [root_head hn (by unfold headR; revert h3; cases validP r.first <;> simp <;> omega)]
  have hh : headR r = true := by unfold headR; revert h3; cases validP r.first <;> simp <;> omega
  have hd : 0 ≤ r.depth ∧ r.depth ≤ 5 := by unfold headR at hh; simp at hh; omega
  clear h3
  refine JC_skip (JQ_then (JC_seq (JC_seq ?_)))
  refine JC_region ?_
  refine JL_1 rfl (op_assign rfl) ?_
  refine JL_nil ?_
  refine JQ_then (JC_block ?_)
  refine JC_loopP (fun k : Nat => k ≤ 4 ∧ ∀ j, j < k → okR r j = true) (fun k => [(1, Is (.pointer (some ⟨i1, 0, none⟩))), (3, Is (.int .i64 (k : Nat)))]) (fun _ => [blk i1 39 (tRt.cells r)]) (fun k => 4 - k) 0 ⟨by omega, fun j h => by omega⟩ esubT lessT ?_
  rintro k ⟨hk, hko⟩
  refine JC_seq (JC_seq ?_)
  refine JC_region ?_
  refine JL_1 rfl (op_move rfl) ?_
  refine JL_1 rfl (op_lss (Ev.rfl' rfl) (Ev.rfl' rfl)) ?_
  refine JL_nil ?_
  refine JQ_then ?_
  refine JC_cond (Ev.rfl' rfl) (fun h6 => ?_) (fun h6 => ?_)
  · have hk4 : k = 0 ∨ k = 1 ∨ k = 2 ∨ k = 3 := by have := of_decide_eq_true h6; omega
    clear h6
    rcases hk4 with rfl | rfl | rfl | rfl
    all_goals
      refine JC_skip (JQ_then (JC_seq (JC_block (JC_seq ?_))))
      refine JC_region ?_
      refine JL_1 rfl (op_move rfl) ?_
      refine JL_1 rfl (by first | exact op_fieldPtr (k := 3) (Ev.rfl' rfl) rfl rfl rfl rfl | exact op_fieldRefN (k := 3) (Ev.rfl' rfl) rfl rfl rfl rfl nrmT) ?_
      refine JL_1 rfl (op_indexArr (k := _) (sz := 2) (Ev.rfl' rfl) (Ev.rfl' rfl) rfl rfl idxT (by first | decide | omega)) ?_
      refine JL_1 rfl (by first | exact op_loadRefsN (n := 2) (Ev.rfl' rfl) rfl rfl rfl (by rfl) nrmT | exact op_loadPtrsN (n := 2) (Ev.rfl' rfl) memT (by rfl) (by rfl) (by rfl) (by rfl) nrmT) ?_
      refine JL_1 rfl (op_call Tryd.call43 (good_ok _) ⟨evS, trivial⟩) ?_
      refine JL_1 rfl (op_not (Ev.rfl' rfl)) ?_
      refine JL_1 rfl (op_move rfl) ?_
      (first | refine JL_i0 rfl rfl rfl (fun hg => (by have hg0 := hg; (try simp at hg); first | exact op_moveE (Ev.sub rfl (SubL.iteT (by first | assumption | (simp; done) | (simp; omega) | (simp_all; done)) SubL.rfl')) | exact op_moveE (Ev.rfl' rfl))) ?_ | refine JL_i rfl rfl rfl (fun hp hg => (by have hpg := Bool.and_eq_true_iff.2 ⟨hp, hg⟩; have hg0 := hg; (try simp at hg); first | exact op_moveE (Ev.sub rfl (SubL.iteT (by first | assumption | (simp; done) | (simp; omega) | (simp_all; done)) SubL.rfl')) | exact op_moveE (Ev.rfl' rfl))) ?_)
      (first | refine JL_i0 rfl rfl rfl (fun hg => (by have hg0 := hg; (try simp at hg); first | exact op_fieldPtr (k := 2) evG rfl rfl rfl rfl | exact op_fieldRefN (k := 2) evG rfl rfl rfl rfl nrmT)) ?_ | refine JL_i rfl rfl rfl (fun hp hg => (by have hpg := Bool.and_eq_true_iff.2 ⟨hp, hg⟩; have hg0 := hg; (try simp at hg); first | exact op_fieldPtr (k := 2) evG rfl rfl rfl rfl | exact op_fieldRefN (k := 2) evG rfl rfl rfl rfl nrmT)) ?_)
      (first | refine JL_i0 rfl rfl rfl (fun hg => (by have hg0 := hg; (try simp at hg); first | exact op_loadRef evG rfl rfl rfl | exact op_loadPtr evG memT (by rfl) (by rfl) (by rfl))) ?_ | refine JL_i rfl rfl rfl (fun hp hg => (by have hpg := Bool.and_eq_true_iff.2 ⟨hp, hg⟩; have hg0 := hg; (try simp at hg); first | exact op_loadRef evG rfl rfl rfl | exact op_loadPtr evG memT (by rfl) (by rfl) (by rfl))) ?_)
      (first | refine JL_i0 rfl rfl rfl (fun hg => (by have hg0 := hg; (try simp at hg); first | ((refine op_call Tryd.call53 (pages_ok _ ?_) ⟨evS, trivial⟩); all_goals (first | first | assumption | omega)))) ?_ | refine JL_i rfl rfl rfl (fun hp hg => (by have hpg := Bool.and_eq_true_iff.2 ⟨hp, hg⟩; have hg0 := hg; (try simp at hg); first | ((refine op_call Tryd.call53 (pages_ok _ ?_) ⟨evS, trivial⟩); all_goals (first | first | assumption | omega)))) ?_)
      (first | refine JL_i0 rfl rfl rfl (fun hg => (by have hg0 := hg; (try simp at hg); exact op_lss evG evG)) ?_ | refine JL_i rfl rfl rfl (fun hp hg => (by have hpg := Bool.and_eq_true_iff.2 ⟨hp, hg⟩; have hg0 := hg; (try simp at hg); exact op_lss evG evG)) ?_)
      (first | refine JL_i0 rfl rfl rfl (fun hg => (by have hg0 := hg; (try simp at hg); first | exact op_moveE (Ev.sub rfl (SubL.iteT (by first | assumption | (simp; done) | (simp; omega) | (simp_all; done)) SubL.rfl')) | exact op_moveE (Ev.rfl' rfl))) ?_ | refine JL_i rfl rfl rfl (fun hp hg => (by have hpg := Bool.and_eq_true_iff.2 ⟨hp, hg⟩; have hg0 := hg; (try simp at hg); first | exact op_moveE (Ev.sub rfl (SubL.iteT (by first | assumption | (simp; done) | (simp; omega) | (simp_all; done)) SubL.rfl')) | exact op_moveE (Ev.rfl' rfl))) ?_)
      (first | refine JL_i0 rfl rfl rfl (fun hg => (by have hg0 := hg; (try simp at hg); first | exact op_moveE (Ev.sub rfl (SubL.iteT (by first | assumption | (simp; done) | (simp; omega) | (simp_all; done)) SubL.rfl')) | exact op_moveE (Ev.rfl' rfl))) ?_ | refine JL_i rfl rfl rfl (fun hp hg => (by have hpg := Bool.and_eq_true_iff.2 ⟨hp, hg⟩; have hg0 := hg; (try simp at hg); first | exact op_moveE (Ev.sub rfl (SubL.iteT (by first | assumption | (simp; done) | (simp; omega) | (simp_all; done)) SubL.rfl')) | exact op_moveE (Ev.rfl' rfl))) ?_)
      (first | refine JL_i0 rfl rfl rfl (fun hg => (by have hg0 := hg; (try simp at hg); first | exact op_fieldPtr (k := 3) evG rfl rfl rfl rfl | exact op_fieldRefN (k := 3) evG rfl rfl rfl rfl nrmT)) ?_ | refine JL_i rfl rfl rfl (fun hp hg => (by have hpg := Bool.and_eq_true_iff.2 ⟨hp, hg⟩; have hg0 := hg; (try simp at hg); first | exact op_fieldPtr (k := 3) evG rfl rfl rfl rfl | exact op_fieldRefN (k := 3) evG rfl rfl rfl rfl nrmT)) ?_)
      (first | refine JL_i0 rfl rfl rfl (fun hg => (by have hg0 := hg; (try simp at hg); exact op_indexArr (k := _) (sz := 2) evG evG rfl rfl idxT (by first | decide | omega))) ?_ | refine JL_i rfl rfl rfl (fun hp hg => (by have hpg := Bool.and_eq_true_iff.2 ⟨hp, hg⟩; have hg0 := hg; (try simp at hg); exact op_indexArr (k := _) (sz := 2) evG evG rfl rfl idxT (by first | decide | omega))) ?_)
      (first | refine JL_i0 rfl rfl rfl (fun hg => (by have hg0 := hg; (try simp at hg); first | exact op_loadRefsN (n := 2) evG rfl rfl rfl (by rfl) nrmT | exact op_loadPtrsN (n := 2) evG memT (by rfl) (by rfl) (by rfl) (by rfl) nrmT)) ?_ | refine JL_i rfl rfl rfl (fun hp hg => (by have hpg := Bool.and_eq_true_iff.2 ⟨hp, hg⟩; have hg0 := hg; (try simp at hg); first | exact op_loadRefsN (n := 2) evG rfl rfl rfl (by rfl) nrmT | exact op_loadPtrsN (n := 2) evG memT (by rfl) (by rfl) (by rfl) (by rfl) nrmT)) ?_)
      (first | refine JL_i0 rfl rfl rfl (fun hg => (by have hg0 := hg; (try simp at hg); exact op_buildN (qs := []) rfl rfl rfl rfl trivial (by rfl) nrmT)) ?_ | refine JL_i rfl rfl rfl (fun hp hg => (by have hpg := Bool.and_eq_true_iff.2 ⟨hp, hg⟩; have hg0 := hg; (try simp at hg); exact op_buildN (qs := []) rfl rfl rfl rfl trivial (by rfl) nrmT)) ?_)
      (first | refine JL_i0 rfl rfl rfl (fun hg => (by have hg0 := hg; (try simp at hg); first | exact op_cmpA (vs := Pt.cells r.p0) (ws := Pt.cells Pt.nil) evG evG (eqPtR_guard _ _ _ r.p0 Pt.nil) (eqPtR_eql r.p0 Pt.nil) | exact op_cmpA (vs := Pt.cells r.p1) (ws := Pt.cells Pt.nil) evG evG (eqPtR_guard _ _ _ r.p1 Pt.nil) (eqPtR_eql r.p1 Pt.nil) | exact op_cmpA (vs := Pt.cells r.p2) (ws := Pt.cells Pt.nil) evG evG (eqPtR_guard _ _ _ r.p2 Pt.nil) (eqPtR_eql r.p2 Pt.nil) | exact op_cmpA (vs := Pt.cells r.p3) (ws := Pt.cells Pt.nil) evG evG (eqPtR_guard _ _ _ r.p3 Pt.nil) (eqPtR_eql r.p3 Pt.nil))) ?_ | refine JL_i rfl rfl rfl (fun hp hg => (by have hpg := Bool.and_eq_true_iff.2 ⟨hp, hg⟩; have hg0 := hg; (try simp at hg); first | exact op_cmpA (vs := Pt.cells r.p0) (ws := Pt.cells Pt.nil) evG evG (eqPtR_guard _ _ _ r.p0 Pt.nil) (eqPtR_eql r.p0 Pt.nil) | exact op_cmpA (vs := Pt.cells r.p1) (ws := Pt.cells Pt.nil) evG evG (eqPtR_guard _ _ _ r.p1 Pt.nil) (eqPtR_eql r.p1 Pt.nil) | exact op_cmpA (vs := Pt.cells r.p2) (ws := Pt.cells Pt.nil) evG evG (eqPtR_guard _ _ _ r.p2 Pt.nil) (eqPtR_eql r.p2 Pt.nil) | exact op_cmpA (vs := Pt.cells r.p3) (ws := Pt.cells Pt.nil) evG evG (eqPtR_guard _ _ _ r.p3 Pt.nil) (eqPtR_eql r.p3 Pt.nil))) ?_)
      (first | refine JL_i0 rfl rfl rfl (fun hg => (by have hg0 := hg; (try simp at hg); exact op_and evG rfl (fun h => by first | exact SubL.rfl' | exact SubL.iteT (by first | (rw [h]; rfl) | (simp_all; done)) SubL.rfl'))) ?_ | refine JL_i rfl rfl rfl (fun hp hg => (by have hpg := Bool.and_eq_true_iff.2 ⟨hp, hg⟩; have hg0 := hg; (try simp at hg); exact op_and evG rfl (fun h => by first | exact SubL.rfl' | exact SubL.iteT (by first | (rw [h]; rfl) | (simp_all; done)) SubL.rfl'))) ?_)
      refine JL_1 rfl (op_or (Ev.rfl' rfl) rfl (fun h => by first | exact SubL.rfl' | exact SubL.iteT (by first | (rw [h]; rfl) | (simp_all; done)) SubL.rfl')) ?_
      refine JL_nil ?_
      refine JQ_then ?_
      refine JC_cond (Ev.rfl' rfl) (fun h8 => ?_) (fun h8 => ?_)
      · refine JC_seq ?_
        refine JC_region ?_
        refine JL_1 rfl (op_assign rfl) ?_
        refine JL_nil ?_
        refine JQ_then (JC_ret (JQ_block_ret (JQ_then_ret (JQ_then_ret (JQ_block_ret (JQ_then_ret ?_))))))
        refine JQ_ret1 Tryd.results30 rfl () (SubL.eq ?_) (List.nil_sublist _)
        rw [root_bad hn (by first | exact Or.inl (okAt_noR h8) | exact Or.inr (Or.inl (okAt_noR h8)) | exact Or.inr (Or.inr (Or.inl (okAt_noR h8))) | exact Or.inr (Or.inr (Or.inr (okAt_noR h8))))]
      refine JC_skip (JQ_block (JQ_then ?_))
      refine JC_region ?_
      refine JL_1 rfl (op_move rfl) ?_
      refine JL_1 rfl (op_add (Ev.rfl' rfl) (Ev.rfl' rfl) wrapT) ?_
      refine JL_1 rfl (op_assign rfl) ?_
      refine JL_nil ?_
      first | exact JQ_roundP 1 ⟨by omega, all_succ hko (okAt_yesR h8)⟩ (by omega) esubT lessT | exact JQ_roundP 2 ⟨by omega, all_succ hko (okAt_yesR h8)⟩ (by omega) esubT lessT | exact JQ_roundP 3 ⟨by omega, all_succ hko (okAt_yesR h8)⟩ (by omega) esubT lessT | exact JQ_roundP 4 ⟨by omega, all_succ hko (okAt_yesR h8)⟩ (by omega) esubT lessT
  have hk4 : k = 4 := by have := of_decide_eq_false h6; omega
  subst hk4
  refine JC_exit (JQ_then_exit (JQ_then_exit (JQ_hit (JQ_then (JC_seq ?_)))))
  refine JC_region ?_
  refine JL_1 rfl (op_assign rfl) ?_
  refine JL_nil ?_
  refine JQ_then (JC_ret ?_)
  refine JQ_ret1 Tryd.results30 rfl () (SubL.eq ?_) (List.nil_sublist _)
  rw [root_ok hn hh hko]
end Go.Proofs.YtmcaomdjlepapaaDoor

/- Contracts: the root page is read. Own work. -/
namespace Go.Proofs.YtmcaomdjlepapaaDoor
open Go.RowKit
set_option linter.unusedVariables false
set_option linter.unusedSimpArgs false
set_option maxRecDepth 100000
@[reducible] def w32 (x : BitVec 64) (s : Nat) : BitVec 32 := (x >>> s).setWidth 32
def readV (p : Pg) : Rt := ⟨unpackP (p.d1.setWidth 32), UV (p.d1 >>> 32), unpackP (w32 p.d2 0), unpackP (w32 p.d2 32), unpackP (w32 p.d3 0), unpackP (w32 p.d3 32)⟩
def ptK (k j : Nat) (q : Pt) : Pt := if j < k then q else Pt.nil
def readK (p : Pg) (k : Nat) : Rt := ⟨unpackP (p.d1.setWidth 32), UV (p.d1 >>> 32), ptK k 0 (unpackP (w32 p.d2 0)), ptK k 1 (unpackP (w32 p.d2 32)), ptK k 2 (unpackP (w32 p.d3 0)), ptK k 3 (unpackP (w32 p.d3 32))⟩
def okK (p : Pg) (k : Nat) : Bool := match k with
  | 0 => okW (p.d1.setWidth 32)
  | 1 => okW (p.d1.setWidth 32) && okW (w32 p.d2 0)
  | 2 => okW (p.d1.setWidth 32) && okW (w32 p.d2 0) && okW (w32 p.d2 32)
  | 3 => okW (p.d1.setWidth 32) && okW (w32 p.d2 0) && okW (w32 p.d2 32) && okW (w32 p.d3 0)
  | _ => okW (p.d1.setWidth 32) && okW (w32 p.d2 0) && okW (w32 p.d2 32) && okW (w32 p.d3 0) && okW (w32 p.d3 32)
def readR (p : Pg) : Rt × Int := if p.l ≠ 96 then (Rt.nil, 1) else if okK p 4 && rootB (readV p) then (readV p, 0) else (Rt.nil, 14)
theorem read_1 {p : Pg} (h : p.l ≠ 96) : readR p = (Rt.nil, 1) := by unfold readR; rw [if_pos h]
theorem read_14 {p : Pg} (h : p.l = 96) (h1 : (okK p 4 && rootB (readV p)) = false) : readR p = (Rt.nil, 14) := by unfold readR; rw [if_neg (not_not_intro h), h1]; rfl
theorem read_0 {p : Pg} (h : p.l = 96) (h1 : (okK p 4 && rootB (readV p)) = true) : readR p = (readV p, 0) := by unfold readR; rw [if_neg (not_not_intro h), h1]; rfl
theorem hi_in (x : BitVec 64) : -9223372036854775808 ≤ UV (x >>> 32) ∧ UV (x >>> 32) ≤ 9223372036854775807 := by
  rw [UV_shr 64 x 32]
  have h1 := UV_lt x
  have h2 := UV_nonneg x
  omega
@[reducible] def lowW (x : BitVec 64) : BitVec 64 := (x.setWidth 32).setWidth 64
theorem rem_low (x : BitVec 64) : (UV x).tmod 4294967296 = UV (lowW x) := by
  rw [Int.tmod_eq_emod_of_nonneg (UV_nonneg x)]
  unfold UV lowW
  simp only [BitVec.toNat_setWidth]
  have := x.isLt
  omega
theorem low_low (x : BitVec 64) : (lowW x).setWidth 32 = x.setWidth 32 := by
  apply BitVec.eq_of_toNat_eq
  simp only [lowW, BitVec.toNat_setWidth]
  omega
theorem deep_bad {p : Pg} (h : 25769803776 ≤ UV p.d1) : rootB (readV p) = false := by
  have h1 : 6 ≤ (readV p).depth := by
    show 6 ≤ UV (p.d1 >>> 32)
    rw [UV_shr 64 p.d1 32]
    omega
  by_cases hn : (readV p).first = Pt.nil
  · unfold rootB
    rw [if_pos hn]
    refine decide_eq_false fun e => ?_
    rw [e] at h1
    exact absurd h1 (by decide)
  · exact root_head hn (by unfold headR; simp; omega)
-- hashindex.ReadRoot: function 8
set_option maxHeartbeats 4000000 in
theorem ReadRoot_ok (p : Pg) : FnK Tryd.prog 8 gNone [IsPg p] (IsTup [IsRt (readR p).1, Is (.int .i64 (readR p).2)]) := by
  have hdw := hi_in p.d1
  refine Fn.enterN Tryd.func8 Tryd.ntmps8 rfl rfl ?_
  intro c hX
  refine JC_seq ?_
  refine JC_region ?_
  (refine JL_n rfl (op_box (Ev.rfl' rfl) cellsT) ?_; intro i1)
  (refine JL_n rfl (op_allocN rfl nrmT rfl) ?_; intro i2)
  refine JL_1 rfl (op_assign rfl) ?_
  refine JL_nil ?_
  refine JQ_then (JC_seq (JC_seq ?_))
  refine JC_region ?_
  refine JL_1 rfl (by first | exact op_fieldPtr (k := 0) (Ev.rfl' rfl) rfl rfl rfl rfl | exact op_fieldRefN (k := 0) (Ev.rfl' rfl) rfl rfl rfl rfl nrmT) ?_
  refine JL_1 rfl (by first | exact op_loadRef (Ev.rfl' rfl) rfl rfl rfl | exact op_loadPtr (Ev.rfl' rfl) memT (by rfl) (by rfl) (by rfl)) ?_
  refine JL_1 rfl (op_neq (Ev.rfl' rfl) (Ev.rfl' rfl)) ?_
  refine JL_nil ?_
  refine JQ_then ?_
  refine JC_cond (Ev.rfl' rfl) (fun h1 => ?_) (fun h1 => ?_)
  · have hl : p.l ≠ 96 := by simpa using h1
    rw [read_1 hl]
    refine JC_seq ?_
    refine JC_region ?_
    refine JL_1 rfl (op_buildN (qs := []) rfl rfl rfl rfl trivial (by rfl) nrmT) ?_
    refine JL_s0 (op_storeN (Ev.rfl' rfl) (Ev.rfl' rfl) cellsT replT nrmT (by rfl) (by rfl) (by rfl)) ?_
    refine JL_1 rfl (op_assign rfl) ?_
    refine JL_nil ?_
    refine JQ_then (JC_ret (JQ_then_ret ?_))
    exact JQ_ret (Bs := [IsRt Rt.nil, Is (.int .i64 1)]) Tryd.results8 ⟨⟨_, _, _, _, rfl, memT, rfl, .inr ⟨rfl, _, rfl, rfl, subT⟩⟩, ⟨⟨_, rfl, subT⟩, trivial⟩⟩ () SubL.rfl' (List.nil_sublist _)
  have hl : p.l = 96 := by simpa using h1
  refine JC_skip (JQ_then (JC_seq ?_))
  refine JC_region ?_
  refine JL_1 rfl (by first | exact op_fieldPtr (k := 2) (Ev.rfl' rfl) rfl rfl rfl rfl | exact op_fieldRefN (k := 2) (Ev.rfl' rfl) rfl rfl rfl rfl nrmT) ?_
  refine JL_1 rfl (op_indexArr (k := 1) (sz := 1) (Ev.rfl' rfl) (Ev.rfl' rfl) rfl rfl idxT (by first | decide | omega)) ?_
  refine JL_1 rfl (by first | exact op_loadRef (Ev.rfl' rfl) rfl rfl rfl | exact op_loadPtr (Ev.rfl' rfl) memT (by rfl) (by rfl) (by rfl)) ?_
  refine JL_1 rfl (op_assign rfl) ?_
  refine JL_nil ?_
  refine JQ_then (JC_seq ?_)
  refine JC_region ?_
  refine JL_1 rfl (op_move rfl) ?_
  refine JL_1 rfl (op_conv (Ev.rfl' rfl) rfl rfl convT) ?_
  refine JL_1 rfl (op_call Tryd.call27 (unpackH_ok _) ⟨evS, trivial⟩) ?_
  refine JL_1 rfl (op_move rfl) ?_
  refine JL_1 rfl (op_extract (Ev.rfl' rfl) rfl) ?_
  refine JL_1 rfl (op_extract (Ev.rfl' rfl) rfl) ?_
  (refine JL_n rfl (op_allocN rfl nrmT rfl) ?_; intro i5)
  refine JL_s0 (op_storeN (Ev.rfl' rfl) (Ev.rfl' rfl) cellsT replT nrmT (by rfl) (by rfl) (by rfl)) ?_
  refine JL_1 rfl (op_assign rfl) ?_
  refine JL_nil ?_
  refine JQ_then (JC_seq ?_)
  refine JC_region ?_
  refine JL_1 rfl (by first | exact op_loadRefsN (n := 2) (Ev.rfl' rfl) rfl rfl rfl (by rfl) nrmT | exact op_loadPtrsN (n := 2) (Ev.rfl' rfl) memT (by rfl) (by rfl) (by rfl) (by rfl) nrmT) ?_
  refine JL_1 rfl (op_move rfl) ?_
  refine JL_1 rfl (by first | exact op_shrU (k := 32) ev64 (Ev.rfl' rfl) (by first | omega | exact UV_nonneg _) idxT | exact op_shr (Ev.rfl' rfl) (Ev.rfl' rfl) (by first | omega | exact UV_nonneg _) rfl) ?_
  refine JL_1 rfl (op_conv (Ev.rfl' rfl) rfl rfl convT) ?_
  refine JL_1 rfl (op_buildN (qs := [(0, _), (1, _)]) rfl rfl rfl rfl ⟨⟨rfl, _, (Ev.rfl' rfl), cellsT⟩, ⟨⟨rfl, _, (Ev.rfl' rfl), cellsT⟩, trivial⟩⟩ (by rfl) nrmT) ?_
  (refine JL_n rfl (op_allocN rfl nrmT rfl) ?_; intro i7)
  refine JL_s0 (op_storeN (Ev.rfl' rfl) (Ev.rfl' rfl) cellsT replT nrmT (by rfl) (by rfl) (by rfl)) ?_
  refine JL_nil ?_
  refine JQ_then (JC_seq (JC_seq ?_))
  refine JC_region ?_
  refine JL_1 rfl (op_move rfl) ?_
  refine JL_nil ?_
  refine JQ_then (JC_block ?_)
  refine JC_loopP (fun k : Nat => k ≤ 4) (fun k => [(1, Is (.pointer (some ⟨i1, 0, none⟩))), (2, Is (.pointer (some ⟨i2, 0, none⟩))), (6, Is (.bool (okK p k))), (7, Is (.pointer (some ⟨i7, 0, none⟩))), (29, Is (.int .i64 (k : Nat)))]) (fun k => [blk i7 30 (tRt.cells (readK p k)), blk i2 30 (tRt.cells Rt.nil), blk i1 25 (tPg.cells p), gNone]) (fun k => 4 - k) 0 (Nat.zero_le _) esubT lessT ?_
  rintro k hk
  refine JC_seq ?_
  refine JC_region ?_
  refine JL_1 rfl (op_lss (Ev.rfl' rfl) (Ev.rfl' rfl)) ?_
  refine JL_nil ?_
  refine JQ_then (JC_seq ?_)
  refine JC_cond (Ev.rfl' rfl) (fun h7 => ?_) (fun h7 => ?_)
  · have hk4 : k = 0 ∨ k = 1 ∨ k = 2 ∨ k = 3 := by have := of_decide_eq_true h7; omega
    clear h7
    rcases hk4 with rfl | rfl | rfl | rfl
    all_goals
      refine JC_skip (JQ_then (JC_seq (JC_block (JC_seq ?_))))
      refine JC_region ?_
      refine JL_1 rfl (op_move rfl) ?_
      refine JL_1 rfl (op_assign rfl) ?_
      refine JL_nil ?_
      refine JQ_then (JC_seq ?_)
      refine JC_region ?_
      refine JL_1 rfl (op_move rfl) ?_
      refine JL_1 rfl (op_quo (Ev.rfl' rfl) (Ev.rfl' rfl) (by omega) wrapT) ?_
      refine JL_1 rfl (op_add (Ev.rfl' rfl) (Ev.rfl' rfl) wrapT) ?_
      refine JL_1 rfl (by first | exact op_fieldPtr (k := 2) (Ev.rfl' rfl) rfl rfl rfl rfl | exact op_fieldRefN (k := 2) (Ev.rfl' rfl) rfl rfl rfl rfl nrmT) ?_
      refine JL_1 rfl (by first | exact op_indexArr (k := 2) (sz := 1) (Ev.rfl' rfl) (Ev.rfl' rfl) rfl rfl (by decide) (by decide) | exact op_indexArr (k := 3) (sz := 1) (Ev.rfl' rfl) (Ev.rfl' rfl) rfl rfl (by decide) (by decide)) ?_
      refine JL_1 rfl (by first | exact op_loadRef (Ev.rfl' rfl) rfl rfl rfl | exact op_loadPtr (Ev.rfl' rfl) memT (by rfl) (by rfl) (by rfl)) ?_
      refine JL_1 rfl (op_move rfl) ?_
      refine JL_1 rfl (op_rem (Ev.rfl' rfl) (Ev.rfl' rfl) (by omega) rfl) ?_
      refine JL_1 rfl (op_mul (Ev.rfl' rfl) (Ev.rfl' rfl) wrapT) ?_
      refine JL_1 rfl (op_conv (Ev.rfl' rfl) rfl rfl convT) ?_
      refine JL_1 rfl (by first | exact op_shrU (k := 0) ev64 (Ev.rfl' rfl) (by decide) (by decide) | exact op_shrU (k := 32) ev64 (Ev.rfl' rfl) (by decide) (by decide)) ?_
      refine JL_1 rfl (op_conv (Ev.rfl' rfl) rfl rfl convT) ?_
      refine JL_1 rfl (op_call Tryd.call27 (unpackH_ok _) ⟨evS, trivial⟩) ?_
      refine JL_1 rfl (op_move rfl) ?_
      refine JL_1 rfl (op_extract (Ev.rfl' rfl) rfl) ?_
      refine JL_1 rfl (op_extract (Ev.rfl' rfl) rfl) ?_
      (refine JL_n rfl (op_allocN rfl nrmT rfl) ?_; intro i9)
      refine JL_s0 (op_storeN (Ev.rfl' rfl) (Ev.rfl' rfl) cellsT replT nrmT (by rfl) (by rfl) (by rfl)) ?_
      refine JL_1 rfl (op_assign rfl) ?_
      refine JL_nil ?_
      refine JQ_then ?_
      refine JC_region ?_
      refine JL_1 rfl (op_move rfl) ?_
      refine JL_1 rfl (by first | exact op_loadRefsN (n := 2) (Ev.rfl' rfl) rfl rfl rfl (by rfl) nrmT | exact op_loadPtrsN (n := 2) (Ev.rfl' rfl) memT (by rfl) (by rfl) (by rfl) (by rfl) nrmT) ?_
      refine JL_1 rfl (op_move rfl) ?_
      refine JL_1 rfl (op_move rfl) ?_
      (first | refine JL_i0 rfl rfl rfl (fun hg => (by have hg0 := hg; (try simp at hg); first | exact op_moveE (Ev.sub rfl (SubL.iteT (by first | assumption | (simp; done) | (simp; omega) | (simp_all; done)) SubL.rfl')) | exact op_moveE (Ev.rfl' rfl))) ?_ | refine JL_i rfl rfl rfl (fun hp hg => (by have hpg := Bool.and_eq_true_iff.2 ⟨hp, hg⟩; have hg0 := hg; (try simp at hg); first | exact op_moveE (Ev.sub rfl (SubL.iteT (by first | assumption | (simp; done) | (simp; omega) | (simp_all; done)) SubL.rfl')) | exact op_moveE (Ev.rfl' rfl))) ?_)
      refine JL_1 rfl (op_and (Ev.rfl' rfl) rfl (fun h => by first | exact SubL.rfl' | exact SubL.iteT (by first | (rw [h]; rfl) | (simp_all; done)) SubL.rfl')) ?_
      refine JL_1 rfl (by first | exact op_fieldPtr (k := 3) (Ev.rfl' rfl) rfl rfl rfl rfl | exact op_fieldRefN (k := 3) (Ev.rfl' rfl) rfl rfl rfl rfl nrmT) ?_
      refine JL_1 rfl (op_indexArr (k := _) (sz := 2) (Ev.rfl' rfl) (Ev.rfl' rfl) rfl rfl idxT (by first | decide | omega)) ?_
      refine JL_s0 (op_storeN (Ev.rfl' rfl) (Ev.rfl' rfl) cellsT replT nrmT (by rfl) (by rfl) (by rfl)) ?_
      refine JL_1 rfl (op_assign rfl) ?_
      refine JL_nil ?_
      refine JQ_block (JQ_then ?_)
      refine JC_region ?_
      refine JL_1 rfl (op_add (Ev.rfl' rfl) (Ev.rfl' rfl) wrapT) ?_
      refine JL_1 rfl (op_move rfl) ?_
      refine JL_nil ?_
      first | exact JQ_roundP 1 (by omega) (by omega) esubT lessT | exact JQ_roundP 2 (by omega) (by omega) esubT lessT | exact JQ_roundP 3 (by omega) (by omega) esubT lessT | exact JQ_roundP 4 (by omega) (by omega) esubT lessT
  have hk4 : k = 4 := by have := of_decide_eq_false h7; omega
  subst hk4
  refine JC_blkEq replT (show tRt.cells (readK p 4) = tRt.cells (readV p) from rfl) ?_
  refine JC_exit (JQ_then_exit (JQ_then_exit (JQ_hit (JQ_then (JC_seq (JC_seq ?_))))))
  refine JC_region ?_
  refine JL_1 rfl (op_move rfl) ?_
  refine JL_1 rfl (op_not (Ev.rfl' rfl)) ?_
  refine JL_1 rfl (op_move rfl) ?_
  (first | refine JL_i0 rfl rfl rfl (fun hg => (by have hg0 := hg; (try simp at hg); first | exact op_loadRefsN (n := 11) evG rfl rfl rfl (by rfl) nrmT | exact op_loadPtrsN (n := 11) evG memT (by rfl) (by rfl) (by rfl) (by rfl) nrmT)) ?_ | refine JL_i rfl rfl rfl (fun hp hg => (by have hpg := Bool.and_eq_true_iff.2 ⟨hp, hg⟩; have hg0 := hg; (try simp at hg); first | exact op_loadRefsN (n := 11) evG rfl rfl rfl (by rfl) nrmT | exact op_loadPtrsN (n := 11) evG memT (by rfl) (by rfl) (by rfl) (by rfl) nrmT)) ?_)
  (first | refine JL_i0 rfl rfl rfl (fun hg => (by have hg0 := hg; (try simp at hg); first | ((refine op_callK Tryd.call28 (RootValid_ok _) ⟨evS, trivial⟩ memT)))) ?_ | refine JL_i rfl rfl rfl (fun hp hg => (by have hpg := Bool.and_eq_true_iff.2 ⟨hp, hg⟩; have hg0 := hg; (try simp at hg); first | ((refine op_callK Tryd.call28 (RootValid_ok _) ⟨evS, trivial⟩ memT)))) ?_)
  (first | refine JL_i0 rfl rfl rfl (fun hg => (by have hg0 := hg; (try simp at hg); exact op_not evG)) ?_ | refine JL_i rfl rfl rfl (fun hp hg => (by have hpg := Bool.and_eq_true_iff.2 ⟨hp, hg⟩; have hg0 := hg; (try simp at hg); exact op_not evG)) ?_)
  refine JL_1 rfl (op_or (Ev.rfl' rfl) rfl (fun h => by first | exact SubL.rfl' | exact SubL.iteT (by first | (rw [h]; rfl) | (simp_all; done)) SubL.rfl')) ?_
  refine JL_nil ?_
  refine JQ_then ?_
  refine JC_cond (Ev.rfl' rfl) (fun h12 => ?_) (fun h12 => ?_)
  · rw [read_14 hl (by revert h12; cases okK p 4 <;> cases rootB (readV p) <;> simp)]
    refine JC_seq ?_
    refine JC_region ?_
    refine JL_1 rfl (op_buildN (qs := []) rfl rfl rfl rfl trivial (by rfl) nrmT) ?_
    refine JL_s0 (op_storeN (Ev.rfl' rfl) (Ev.rfl' rfl) cellsT replT nrmT (by rfl) (by rfl) (by rfl)) ?_
    refine JL_1 rfl (op_assign rfl) ?_
    refine JL_nil ?_
    refine JQ_then (JC_ret (JQ_then_ret ?_))
    exact JQ_ret (Bs := [IsRt Rt.nil, Is (.int .i64 14)]) Tryd.results8 ⟨⟨_, _, _, _, rfl, memT, rfl, .inr ⟨rfl, _, rfl, rfl, subT⟩⟩, ⟨⟨_, rfl, subT⟩, trivial⟩⟩ () SubL.rfl' (List.nil_sublist _)
  rw [read_0 hl (by revert h12; cases okK p 4 <;> cases rootB (readV p) <;> simp)]
  refine JC_skip (JQ_then (JC_seq ?_))
  refine JC_region ?_
  refine JL_1 rfl (by first | exact op_loadRefsN (n := 11) (Ev.rfl' rfl) rfl rfl rfl (by rfl) nrmT | exact op_loadPtrsN (n := 11) (Ev.rfl' rfl) memT (by rfl) (by rfl) (by rfl) (by rfl) nrmT) ?_
  refine JL_s0 (op_storeN (Ev.rfl' rfl) (Ev.rfl' rfl) cellsT replT nrmT (by rfl) (by rfl) (by rfl)) ?_
  refine JL_1 rfl (op_assign rfl) ?_
  refine JL_nil ?_
  refine JQ_then (JC_ret ?_)
  exact JQ_ret (Bs := [IsRt (readV p), Is (.int .i64 0)]) Tryd.results8 ⟨⟨_, _, _, _, rfl, memT, rfl, .inr ⟨rfl, _, rfl, rfl, subT⟩⟩, ⟨⟨_, rfl, subT⟩, trivial⟩⟩ () SubL.rfl' (List.nil_sublist _)
end Go.Proofs.YtmcaomdjlepapaaDoor

/- Contracts: the root page is read, by the reference. Own work. -/
namespace Go.Proofs.YtmcaomdjlepapaaDoor
open Go.RowKit
set_option linter.unusedVariables false
set_option linter.unusedSimpArgs false
set_option maxRecDepth 100000
-- bodegaref23.ReadRoot: function 9
set_option maxHeartbeats 4000000 in
theorem ReadRootR_ok (p : Pg) : FnP Tryd.prog 9 [IsPg p] (IsTup [IsRt (readR p).1, Is (.int .i64 (readR p).2)]) := by
  have hdw := hi_in p.d1
  refine FnP.enter Tryd.func9 Tryd.ntmps9 rfl rfl ?_
  intro c hX
  refine JC_seq ?_
  refine JC_region ?_
  (refine JL_n rfl (op_box (Ev.rfl' rfl) cellsT) ?_; intro i1)
  (refine JL_n rfl (op_allocN rfl nrmT rfl) ?_; intro i2)
  refine JL_1 rfl (op_assign rfl) ?_
  refine JL_nil ?_
  refine JQ_then (JC_seq (JC_seq ?_))
  refine JC_region ?_
  refine JL_1 rfl (by first | exact op_fieldPtr (k := 0) (Ev.rfl' rfl) rfl rfl rfl rfl | exact op_fieldRefN (k := 0) (Ev.rfl' rfl) rfl rfl rfl rfl nrmT) ?_
  refine JL_1 rfl (by first | exact op_loadRef (Ev.rfl' rfl) rfl rfl rfl | exact op_loadPtr (Ev.rfl' rfl) memT (by rfl) (by rfl) (by rfl)) ?_
  refine JL_1 rfl (op_neq (Ev.rfl' rfl) (Ev.rfl' rfl)) ?_
  refine JL_nil ?_
  refine JQ_then ?_
  refine JC_cond (Ev.rfl' rfl) (fun h1 => ?_) (fun h1 => ?_)
  · have hl : p.l ≠ 96 := by simpa using h1
    rw [read_1 hl]
    refine JC_seq ?_
    refine JC_region ?_
    refine JL_1 rfl (op_buildN (qs := []) rfl rfl rfl rfl trivial (by rfl) nrmT) ?_
    refine JL_s0 (op_storeN (Ev.rfl' rfl) (Ev.rfl' rfl) cellsT replT nrmT (by rfl) (by rfl) (by rfl)) ?_
    refine JL_1 rfl (op_assign rfl) ?_
    refine JL_nil ?_
    refine JQ_then (JC_ret (JQ_then_ret ?_))
    exact JQ_ret (Bs := [IsRt Rt.nil, Is (.int .i64 1)]) Tryd.results9 ⟨⟨_, _, _, _, rfl, memT, rfl, .inr ⟨rfl, _, rfl, rfl, subT⟩⟩, ⟨⟨_, rfl, subT⟩, trivial⟩⟩ () SubL.rfl' (List.nil_sublist _)
  have hl : p.l = 96 := by simpa using h1
  refine JC_skip (JQ_then (JC_seq ?_))
  refine JC_region ?_
  (refine JL_n rfl (op_allocN rfl nrmT rfl) ?_; intro i4)
  refine JL_nil ?_
  refine JQ_then (JC_seq (JC_seq ?_))
  refine JC_region ?_
  refine JL_1 rfl (by first | exact op_fieldPtr (k := 2) (Ev.rfl' rfl) rfl rfl rfl rfl | exact op_fieldRefN (k := 2) (Ev.rfl' rfl) rfl rfl rfl rfl nrmT) ?_
  refine JL_1 rfl (op_indexArr (k := 1) (sz := 1) (Ev.rfl' rfl) (Ev.rfl' rfl) rfl rfl idxT (by first | decide | omega)) ?_
  refine JL_1 rfl (by first | exact op_loadRef (Ev.rfl' rfl) rfl rfl rfl | exact op_loadPtr (Ev.rfl' rfl) memT (by rfl) (by rfl) (by rfl)) ?_
  refine JL_1 rfl (op_geq (Ev.rfl' rfl) (Ev.rfl' rfl)) ?_
  refine JL_nil ?_
  refine JQ_then ?_
  refine JC_cond (Ev.rfl' rfl) (fun h4 => ?_) (fun h4 => ?_)
  · have hb := of_decide_eq_true h4
    rw [read_14 hl (by rw [deep_bad (by omega)]; simp)]
    refine JC_seq ?_
    refine JC_region ?_
    refine JL_1 rfl (op_buildN (qs := []) rfl rfl rfl rfl trivial (by rfl) nrmT) ?_
    refine JL_s0 (op_storeN (Ev.rfl' rfl) (Ev.rfl' rfl) cellsT replT nrmT (by rfl) (by rfl) (by rfl)) ?_
    refine JL_1 rfl (op_assign rfl) ?_
    refine JL_nil ?_
    refine JQ_then (JC_ret (JQ_then_ret ?_))
    exact JQ_ret (Bs := [IsRt Rt.nil, Is (.int .i64 14)]) Tryd.results9 ⟨⟨_, _, _, _, rfl, memT, rfl, .inr ⟨rfl, _, rfl, rfl, subT⟩⟩, ⟨⟨_, rfl, subT⟩, trivial⟩⟩ () SubL.rfl' (List.nil_sublist _)
  refine JC_skip (JQ_then (JC_seq ?_))
  refine JC_region ?_
  refine JL_1 rfl (by first | exact op_fieldPtr (k := 2) (Ev.rfl' rfl) rfl rfl rfl rfl | exact op_fieldRefN (k := 2) (Ev.rfl' rfl) rfl rfl rfl rfl nrmT) ?_
  refine JL_1 rfl (op_indexArr (k := 1) (sz := 1) (Ev.rfl' rfl) (Ev.rfl' rfl) rfl rfl idxT (by first | decide | omega)) ?_
  refine JL_1 rfl (by first | exact op_loadRef (Ev.rfl' rfl) rfl rfl rfl | exact op_loadPtr (Ev.rfl' rfl) memT (by rfl) (by rfl) (by rfl)) ?_
  refine JL_1 rfl (by first | exact op_shrU (k := 32) ev64 (Ev.rfl' rfl) (by first | omega | exact UV_nonneg _) idxT | exact op_shr (Ev.rfl' rfl) (Ev.rfl' rfl) (by first | omega | exact UV_nonneg _) rfl) ?_
  refine JL_1 rfl (op_conv (Ev.rfl' rfl) rfl rfl convT) ?_
  refine JL_1 rfl (by first | exact op_fieldPtr (k := 2) (Ev.rfl' rfl) rfl rfl rfl rfl | exact op_fieldRefN (k := 2) (Ev.rfl' rfl) rfl rfl rfl rfl nrmT) ?_
  refine JL_s0 (op_storeN (Ev.rfl' rfl) (Ev.rfl' rfl) cellsT replT nrmT (by rfl) (by rfl) (by rfl)) ?_
  refine JL_nil ?_
  refine JQ_then (JC_seq ?_)
  refine JC_region ?_
  refine JL_1 rfl (op_assign rfl) ?_
  refine JL_nil ?_
  refine JQ_then (JC_seq ?_)
  refine JC_region ?_
  refine JL_1 rfl (by first | exact op_fieldPtr (k := 2) (Ev.rfl' rfl) rfl rfl rfl rfl | exact op_fieldRefN (k := 2) (Ev.rfl' rfl) rfl rfl rfl rfl nrmT) ?_
  refine JL_1 rfl (op_indexArr (k := 1) (sz := 1) (Ev.rfl' rfl) (Ev.rfl' rfl) rfl rfl idxT (by first | decide | omega)) ?_
  refine JL_1 rfl (by first | exact op_loadRef (Ev.rfl' rfl) rfl rfl rfl | exact op_loadPtr (Ev.rfl' rfl) memT (by rfl) (by rfl) (by rfl)) ?_
  refine JL_1 rfl (op_rem (Ev.rfl' rfl) (Ev.rfl' rfl) (by omega) rfl) ?_
  rw [rem_low]
  refine JL_1 rfl (op_call Tryd.call29 (pointer_ok _) ⟨evS, trivial⟩) ?_
  rw [low_low]
  refine JL_1 rfl (op_move rfl) ?_
  refine JL_1 rfl (op_extract (Ev.rfl' rfl) rfl) ?_
  refine JL_1 rfl (op_extract (Ev.rfl' rfl) rfl) ?_
  refine JL_1 rfl (by first | exact op_fieldPtr (k := 0) (Ev.rfl' rfl) rfl rfl rfl rfl | exact op_fieldRefN (k := 0) (Ev.rfl' rfl) rfl rfl rfl rfl nrmT) ?_
  refine JL_s0 (op_storeN (Ev.rfl' rfl) (Ev.rfl' rfl) cellsT replT nrmT (by rfl) (by rfl) (by rfl)) ?_
  refine JL_1 rfl (op_assign rfl) ?_
  refine JL_nil ?_
  refine JQ_then (JC_seq (JC_seq ?_))
  refine JC_region ?_
  refine JL_1 rfl (op_assign rfl) ?_
  refine JL_nil ?_
  refine JQ_then (JC_block ?_)
  refine JC_loopP (fun k : Nat => k ≤ 4) (fun k => [(1, Is (.pointer (some ⟨i1, 0, none⟩))), (2, Is (.pointer (some ⟨i2, 0, none⟩))), (4, Is (.pointer (some ⟨i4, 0, none⟩))), (5, Is (.bool (okK p k))), (6, Is (.int .i64 (k : Nat)))]) (fun k => [blk i4 39 (tRt.cells (readK p k)), blk i2 39 (tRt.cells Rt.nil), blk i1 25 (tPg.cells p)]) (fun k => 4 - k) 0 (Nat.zero_le _) esubT lessT ?_
  rintro k hk
  refine JC_seq (JC_seq ?_)
  refine JC_region ?_
  refine JL_1 rfl (op_move rfl) ?_
  refine JL_1 rfl (op_lss (Ev.rfl' rfl) (Ev.rfl' rfl)) ?_
  refine JL_nil ?_
  refine JQ_then ?_
  refine JC_cond (Ev.rfl' rfl) (fun h10 => ?_) (fun h10 => ?_)
  · have hk4 : k = 0 ∨ k = 1 ∨ k = 2 ∨ k = 3 := by have := of_decide_eq_true h10; omega
    clear h10
    rcases hk4 with rfl | rfl | rfl | rfl
    all_goals
      refine JC_skip (JQ_then (JC_seq (JC_block (JC_seq ?_))))
      refine JC_region ?_
      refine JL_1 rfl (op_assign rfl) ?_
      refine JL_nil ?_
      refine JQ_then (JC_seq ?_)
      refine JC_region ?_
      refine JL_1 rfl (op_move rfl) ?_
      refine JL_1 rfl (op_move rfl) ?_
      refine JL_1 rfl (op_quo (Ev.rfl' rfl) (Ev.rfl' rfl) (by omega) wrapT) ?_
      refine JL_1 rfl (op_add (Ev.rfl' rfl) (Ev.rfl' rfl) wrapT) ?_
      refine JL_1 rfl (by first | exact op_fieldPtr (k := 2) (Ev.rfl' rfl) rfl rfl rfl rfl | exact op_fieldRefN (k := 2) (Ev.rfl' rfl) rfl rfl rfl rfl nrmT) ?_
      refine JL_1 rfl (by first | exact op_indexArr (k := 2) (sz := 1) (Ev.rfl' rfl) (Ev.rfl' rfl) rfl rfl (by decide) (by decide) | exact op_indexArr (k := 3) (sz := 1) (Ev.rfl' rfl) (Ev.rfl' rfl) rfl rfl (by decide) (by decide)) ?_
      refine JL_1 rfl (by first | exact op_loadRef (Ev.rfl' rfl) rfl rfl rfl | exact op_loadPtr (Ev.rfl' rfl) memT (by rfl) (by rfl) (by rfl)) ?_
      refine JL_1 rfl (op_move rfl) ?_
      refine JL_1 rfl (op_rem (Ev.rfl' rfl) (Ev.rfl' rfl) (by omega) rfl) ?_
      refine JL_1 rfl (op_mul (Ev.rfl' rfl) (Ev.rfl' rfl) wrapT) ?_
      refine JL_1 rfl (op_conv (Ev.rfl' rfl) rfl rfl convT) ?_
      refine JL_1 rfl (by first | exact op_shrU (k := 0) ev64 (Ev.rfl' rfl) (by decide) (by decide) | exact op_shrU (k := 32) ev64 (Ev.rfl' rfl) (by decide) (by decide)) ?_
      refine JL_1 rfl (op_rem (Ev.rfl' rfl) (Ev.rfl' rfl) (by omega) rfl) ?_
      rw [rem_low]
      refine JL_1 rfl (op_call Tryd.call29 (pointer_ok _) ⟨evS, trivial⟩) ?_
      rw [low_low]
      refine JL_1 rfl (op_move rfl) ?_
      refine JL_1 rfl (op_extract (Ev.rfl' rfl) rfl) ?_
      refine JL_1 rfl (op_extract (Ev.rfl' rfl) rfl) ?_
      refine JL_1 rfl (by first | exact op_fieldPtr (k := 3) (Ev.rfl' rfl) rfl rfl rfl rfl | exact op_fieldRefN (k := 3) (Ev.rfl' rfl) rfl rfl rfl rfl nrmT) ?_
      refine JL_1 rfl (op_indexArr (k := _) (sz := 2) (Ev.rfl' rfl) (Ev.rfl' rfl) rfl rfl idxT (by first | decide | omega)) ?_
      refine JL_s0 (op_storeN (Ev.rfl' rfl) (Ev.rfl' rfl) cellsT replT nrmT (by rfl) (by rfl) (by rfl)) ?_
      refine JL_1 rfl (op_assign rfl) ?_
      refine JL_nil ?_
      refine JQ_then ?_
      refine JC_region ?_
      refine JL_1 rfl (op_move rfl) ?_
      refine JL_1 rfl (op_move rfl) ?_
      (first | refine JL_i0 rfl rfl rfl (fun hg => (by have hg0 := hg; (try simp at hg); first | exact op_moveE (Ev.sub rfl (SubL.iteT (by first | assumption | (simp; done) | (simp; omega) | (simp_all; done)) SubL.rfl')) | exact op_moveE (Ev.rfl' rfl))) ?_ | refine JL_i rfl rfl rfl (fun hp hg => (by have hpg := Bool.and_eq_true_iff.2 ⟨hp, hg⟩; have hg0 := hg; (try simp at hg); first | exact op_moveE (Ev.sub rfl (SubL.iteT (by first | assumption | (simp; done) | (simp; omega) | (simp_all; done)) SubL.rfl')) | exact op_moveE (Ev.rfl' rfl))) ?_)
      refine JL_1 rfl (op_and (Ev.rfl' rfl) rfl (fun h => by first | exact SubL.rfl' | exact SubL.iteT (by first | (rw [h]; rfl) | (simp_all; done)) SubL.rfl')) ?_
      refine JL_1 rfl (op_assign rfl) ?_
      refine JL_nil ?_
      refine JQ_block (JQ_then ?_)
      refine JC_region ?_
      refine JL_1 rfl (op_move rfl) ?_
      refine JL_1 rfl (op_add (Ev.rfl' rfl) (Ev.rfl' rfl) wrapT) ?_
      refine JL_1 rfl (op_assign rfl) ?_
      refine JL_nil ?_
      first | exact JQ_roundP 1 (by omega) (by omega) esubT lessT | exact JQ_roundP 2 (by omega) (by omega) esubT lessT | exact JQ_roundP 3 (by omega) (by omega) esubT lessT | exact JQ_roundP 4 (by omega) (by omega) esubT lessT
  have hk4 : k = 4 := by have := of_decide_eq_false h10; omega
  subst hk4
  refine JC_blkEq replT (show tRt.cells (readK p 4) = tRt.cells (readV p) from rfl) ?_
  refine JC_exit (JQ_then_exit (JQ_then_exit (JQ_hit (JQ_then (JC_seq (JC_seq ?_))))))
  refine JC_region ?_
  refine JL_1 rfl (op_move rfl) ?_
  refine JL_1 rfl (op_not (Ev.rfl' rfl)) ?_
  refine JL_1 rfl (op_move rfl) ?_
  (first | refine JL_i0 rfl rfl rfl (fun hg => (by have hg0 := hg; (try simp at hg); first | exact op_loadRefsN (n := 11) evG rfl rfl rfl (by rfl) nrmT | exact op_loadPtrsN (n := 11) evG memT (by rfl) (by rfl) (by rfl) (by rfl) nrmT)) ?_ | refine JL_i rfl rfl rfl (fun hp hg => (by have hpg := Bool.and_eq_true_iff.2 ⟨hp, hg⟩; have hg0 := hg; (try simp at hg); first | exact op_loadRefsN (n := 11) evG rfl rfl rfl (by rfl) nrmT | exact op_loadPtrsN (n := 11) evG memT (by rfl) (by rfl) (by rfl) (by rfl) nrmT)) ?_)
  (first | refine JL_i0 rfl rfl rfl (fun hg => (by have hg0 := hg; (try simp at hg); exact op_call Tryd.call30 (ValidRoot_ok _) ⟨evS, trivial⟩)) ?_ | refine JL_i rfl rfl rfl (fun hp hg => (by have hpg := Bool.and_eq_true_iff.2 ⟨hp, hg⟩; have hg0 := hg; (try simp at hg); exact op_call Tryd.call30 (ValidRoot_ok _) ⟨evS, trivial⟩)) ?_)
  (first | refine JL_i0 rfl rfl rfl (fun hg => (by have hg0 := hg; (try simp at hg); exact op_not evG)) ?_ | refine JL_i rfl rfl rfl (fun hp hg => (by have hpg := Bool.and_eq_true_iff.2 ⟨hp, hg⟩; have hg0 := hg; (try simp at hg); exact op_not evG)) ?_)
  refine JL_1 rfl (op_or (Ev.rfl' rfl) rfl (fun h => by first | exact SubL.rfl' | exact SubL.iteT (by first | (rw [h]; rfl) | (simp_all; done)) SubL.rfl')) ?_
  refine JL_nil ?_
  refine JQ_then ?_
  refine JC_cond (Ev.rfl' rfl) (fun h15 => ?_) (fun h15 => ?_)
  · rw [read_14 hl (by revert h15; cases okK p 4 <;> cases rootB (readV p) <;> simp)]
    refine JC_seq ?_
    refine JC_region ?_
    refine JL_1 rfl (op_buildN (qs := []) rfl rfl rfl rfl trivial (by rfl) nrmT) ?_
    refine JL_s0 (op_storeN (Ev.rfl' rfl) (Ev.rfl' rfl) cellsT replT nrmT (by rfl) (by rfl) (by rfl)) ?_
    refine JL_1 rfl (op_assign rfl) ?_
    refine JL_nil ?_
    refine JQ_then (JC_ret (JQ_then_ret ?_))
    exact JQ_ret (Bs := [IsRt Rt.nil, Is (.int .i64 14)]) Tryd.results9 ⟨⟨_, _, _, _, rfl, memT, rfl, .inr ⟨rfl, _, rfl, rfl, subT⟩⟩, ⟨⟨_, rfl, subT⟩, trivial⟩⟩ () SubL.rfl' (List.nil_sublist _)
  rw [read_0 hl (by revert h15; cases okK p 4 <;> cases rootB (readV p) <;> simp)]
  refine JC_skip (JQ_then (JC_seq ?_))
  refine JC_region ?_
  refine JL_1 rfl (by first | exact op_loadRefsN (n := 11) (Ev.rfl' rfl) rfl rfl rfl (by rfl) nrmT | exact op_loadPtrsN (n := 11) (Ev.rfl' rfl) memT (by rfl) (by rfl) (by rfl) (by rfl) nrmT) ?_
  refine JL_s0 (op_storeN (Ev.rfl' rfl) (Ev.rfl' rfl) cellsT replT nrmT (by rfl) (by rfl) (by rfl)) ?_
  refine JL_1 rfl (op_assign rfl) ?_
  refine JL_nil ?_
  refine JQ_then (JC_ret ?_)
  exact JQ_ret (Bs := [IsRt (readV p), Is (.int .i64 0)]) Tryd.results9 ⟨⟨_, _, _, _, rfl, memT, rfl, .inr ⟨rfl, _, rfl, rfl, subT⟩⟩, ⟨⟨_, rfl, subT⟩, trivial⟩⟩ () SubL.rfl' (List.nil_sublist _)
end Go.Proofs.YtmcaomdjlepapaaDoor

/- Contracts: the root page is written. Own work. -/
namespace Go.Proofs.YtmcaomdjlepapaaDoor
open Go.RowKit
set_option linter.unusedVariables false
set_option linter.unusedSimpArgs false
set_option maxRecDepth 100000
@[reducible] def packW (x : BitVec 32) (y : BitVec 64) : BitVec 64 := x.setWidth 64 ||| y <<< 32
theorem pack_disj (x : BitVec 32) (y : BitVec 64) : x.setWidth 64 &&& y <<< 32 = 0#64 := by
  apply BitVec.eq_of_getLsbD_eq
  intro i hi
  simp only [BitVec.getLsbD_and, BitVec.getLsbD_setWidth, BitVec.getLsbD_shiftLeft]
  rcases Nat.lt_or_ge i 32 with h | h
  · simp [h]
  · rw [BitVec.getLsbD_of_ge x i h]; simp
theorem add_or (x : BitVec 32) (y : BitVec 64) : x.setWidth 64 + y <<< 32 = packW x y := BitVec.add_eq_or_of_and_eq_zero _ _ (pack_disj x y)
theorem pack_low (x : BitVec 32) (y : BitVec 64) : (packW x y).setWidth 32 = x := by
  apply BitVec.eq_of_getLsbD_eq
  intro i hi
  simp only [packW, BitVec.getLsbD_setWidth, BitVec.getLsbD_or, BitVec.getLsbD_shiftLeft]
  simp [hi, show i < 64 by omega]
theorem pack_high (x z : BitVec 32) : packW x (z.setWidth 64) >>> 32 = z.setWidth 64 := by
  apply BitVec.eq_of_getLsbD_eq
  intro i hi
  simp only [packW, BitVec.getLsbD_ushiftRight, BitVec.getLsbD_setWidth, BitVec.getLsbD_or, BitVec.getLsbD_shiftLeft]
  rw [BitVec.getLsbD_of_ge x (32 + i) (by omega)]
  rcases Nat.lt_or_ge i 32 with h | h
  · simp [hi, h, show 32 + i < 64 by omega, show 32 + i - 32 = i by omega]
  · rw [BitVec.getLsbD_of_ge z i h]; simp; omega
theorem setW_setW (z : BitVec 32) : (z.setWidth 64).setWidth 32 = z := by
  apply BitVec.eq_of_toNat_eq
  simp only [BitVec.toNat_setWidth]
  have := z.isLt
  omega
theorem ofInt_small64 {d : Int} (h : 0 ≤ d ∧ d ≤ 5) : BitVec.ofInt 64 d = (BitVec.ofInt 32 d).setWidth 64 := by
  apply BitVec.eq_of_toNat_eq
  simp only [BitVec.toNat_setWidth, BitVec.toNat_ofInt]
  omega
def Pg.nil : Pg := ⟨0, 0#64, 0#64, 0#64, 0#64, 0#64, 0#64, 0#64, 0#64⟩
def writeK (p : Pg) (r : Rt) (k : Nat) : Pg := ⟨p.l, p.h, p.d0, packW (packP r.first) (BitVec.ofInt 64 r.depth), if 2 ≤ k then packW (packP r.p0) ((packP r.p1).setWidth 64) else p.d2, if 4 ≤ k then packW (packP r.p2) ((packP r.p3).setWidth 64) else p.d3, p.d4, p.d5, p.d6⟩
def writeV (p : Pg) (r : Rt) : Pg := writeK p r 4
def writeR (p : Pg) (r : Rt) : Pg × Int := if (p.l != 96 || !rootB r) then (Pg.nil, 1) else (writeV p r, 0)
theorem field_back {p : Pt} (h : fieldB p = true) : unpackP (packP p) = p ∧ okW (packP p) = true := by
  by_cases hn : p = Pt.nil
  · subst hn; exact ⟨rfl, rfl⟩
  · have hv : validP p = true := by
      unfold fieldB at h
      rw [decide_eq_false hn] at h
      simpa using h
    refine ⟨unpack_pack hv, ?_⟩
    unfold okW
    rw [unpack_pack hv, hv]
    simp
theorem okAt_field {d i : Int} {p : Pt} (h : okAt d i p = true) : fieldB p = true := by
  unfold okAt at h
  simp only [Bool.and_eq_true] at h
  exact h.1
theorem back_root {p : Pg} {r : Rt} (hl : p.l = 96) (h : rootB r = true) : readR (writeV p r) = (r, 0) := by
  have hf : fieldB r.first = true ∧ fieldB r.p0 = true ∧ fieldB r.p1 = true ∧ fieldB r.p2 = true ∧ fieldB r.p3 = true ∧ 0 ≤ r.depth ∧ r.depth ≤ 5 := by
    have h1 := h
    unfold rootB at h1
    split at h1
    · have := of_decide_eq_true h1
      rw [this]
      exact ⟨rfl, rfl, rfl, rfl, rfl, by decide, by decide⟩
    · simp only [Bool.and_eq_true] at h1
      obtain ⟨⟨⟨⟨a, b0⟩, b1⟩, b2⟩, b3⟩ := h1
      unfold headR at a
      simp only [Bool.and_eq_true, decide_eq_true_eq] at a
      refine ⟨by unfold fieldB; rw [a.1.1]; simp, okAt_field b0, okAt_field b1, okAt_field b2, okAt_field b3, a.1.2, a.2⟩
  obtain ⟨h0, h1, h2, h3, h4, hd⟩ := hf
  obtain ⟨e0, o0⟩ := field_back h0
  obtain ⟨e1, o1⟩ := field_back h1
  obtain ⟨e2, o2⟩ := field_back h2
  obtain ⟨e3, o3⟩ := field_back h3
  obtain ⟨e4, o4⟩ := field_back h4
  have z0 : ∀ x : BitVec 64, x >>> 0 = x := fun x => BitVec.ushiftRight_zero x
  have d1 : (writeV p r).d1 = packW (packP r.first) ((BitVec.ofInt 32 r.depth).setWidth 64) := by
    show packW _ (BitVec.ofInt 64 r.depth) = _
    rw [ofInt_small64 hd]
  have d2 : (writeV p r).d2 = packW (packP r.p0) ((packP r.p1).setWidth 64) := rfl
  have d3 : (writeV p r).d3 = packW (packP r.p2) ((packP r.p3).setWidth 64) := rfl
  have hdep : UV ((BitVec.ofInt 32 r.depth).setWidth 64) = r.depth := by
    unfold UV
    simp only [BitVec.toNat_setWidth, BitVec.toNat_ofInt]
    omega
  have hr : readV (writeV p r) = r := by
    unfold readV w32
    rw [d1, d2, d3, z0, z0, pack_low, pack_low, pack_low, pack_high, pack_high, pack_high, setW_setW, setW_setW, e0, e1, e2, e3, e4, hdep]
  refine (read_0 (p := writeV p r) hl ?_).trans (by rw [hr])
  rw [hr, h]
  unfold okK w32
  rw [d1, d2, d3, z0, z0, pack_low, pack_low, pack_low, pack_high, pack_high, setW_setW, setW_setW, o0, o1, o2, o3, o4]
  rfl
-- hashindex.WriteRoot: function 10
set_option maxHeartbeats 4000000 in
theorem WriteRoot_ok (p : Pg) (r : Rt) : FnK Tryd.prog 10 gNone [IsPg p, IsRt r] (IsTup [IsPg (writeR p r).1, Is (.int .i64 (writeR p r).2)]) := by
  refine Fn.enterN Tryd.func10 Tryd.ntmps10 rfl rfl ?_
  intro c hX
  refine JC_seq ?_
  refine JC_region ?_
  (refine JL_n rfl (op_box (Ev.rfl' rfl) cellsT) ?_; intro i2)
  (refine JL_n rfl (op_box (Ev.rfl' rfl) cellsT) ?_; intro i3)
  (refine JL_n rfl (op_allocN rfl nrmT rfl) ?_; intro i4)
  refine JL_1 rfl (op_assign rfl) ?_
  refine JL_nil ?_
  refine JQ_then (JC_seq (JC_seq ?_))
  refine JC_region ?_
  refine JL_1 rfl (by first | exact op_fieldPtr (k := 0) (Ev.rfl' rfl) rfl rfl rfl rfl | exact op_fieldRefN (k := 0) (Ev.rfl' rfl) rfl rfl rfl rfl nrmT) ?_
  refine JL_1 rfl (by first | exact op_loadRef (Ev.rfl' rfl) rfl rfl rfl | exact op_loadPtr (Ev.rfl' rfl) memT (by rfl) (by rfl) (by rfl)) ?_
  refine JL_1 rfl (op_neq (Ev.rfl' rfl) (Ev.rfl' rfl)) ?_
  refine JL_1 rfl (op_move rfl) ?_
  (first | refine JL_i0 rfl rfl rfl (fun hg => (by have hg0 := hg; (try simp at hg); first | exact op_loadRefsN (n := 11) evG rfl rfl rfl (by rfl) nrmT | exact op_loadPtrsN (n := 11) evG memT (by rfl) (by rfl) (by rfl) (by rfl) nrmT)) ?_ | refine JL_i rfl rfl rfl (fun hp hg => (by have hpg := Bool.and_eq_true_iff.2 ⟨hp, hg⟩; have hg0 := hg; (try simp at hg); first | exact op_loadRefsN (n := 11) evG rfl rfl rfl (by rfl) nrmT | exact op_loadPtrsN (n := 11) evG memT (by rfl) (by rfl) (by rfl) (by rfl) nrmT)) ?_)
  (first | refine JL_i0 rfl rfl rfl (fun hg => (by have hg0 := hg; (try simp at hg); first | ((refine op_callK Tryd.call28 (RootValid_ok _) ⟨evS, trivial⟩ memT)))) ?_ | refine JL_i rfl rfl rfl (fun hp hg => (by have hpg := Bool.and_eq_true_iff.2 ⟨hp, hg⟩; have hg0 := hg; (try simp at hg); first | ((refine op_callK Tryd.call28 (RootValid_ok _) ⟨evS, trivial⟩ memT)))) ?_)
  (first | refine JL_i0 rfl rfl rfl (fun hg => (by have hg0 := hg; (try simp at hg); exact op_not evG)) ?_ | refine JL_i rfl rfl rfl (fun hp hg => (by have hpg := Bool.and_eq_true_iff.2 ⟨hp, hg⟩; have hg0 := hg; (try simp at hg); exact op_not evG)) ?_)
  refine JL_1 rfl (op_or (Ev.rfl' rfl) rfl (fun h => by first | exact SubL.rfl' | exact SubL.iteT (by first | (rw [h]; rfl) | (simp_all; done)) SubL.rfl')) ?_
  refine JL_nil ?_
  refine JQ_then ?_
  refine JC_cond (Ev.rfl' rfl) (fun h1 => ?_) (fun h1 => ?_)
  · have e : writeR p r = (Pg.nil, 1) := by unfold writeR; rw [if_pos h1]
    rw [e]
    refine JC_seq ?_
    refine JC_region ?_
    refine JL_1 rfl (op_buildN (qs := []) rfl rfl rfl rfl trivial (by rfl) nrmT) ?_
    refine JL_s0 (op_storeN (Ev.rfl' rfl) (Ev.rfl' rfl) cellsT replT nrmT (by rfl) (by rfl) (by rfl)) ?_
    refine JL_1 rfl (op_assign rfl) ?_
    refine JL_nil ?_
    refine JQ_then (JC_ret (JQ_then_ret ?_))
    exact JQ_ret (Bs := [IsPg Pg.nil, Is (.int .i64 1)]) Tryd.results10 ⟨⟨_, _, _, _, rfl, memT, rfl, .inr ⟨rfl, _, rfl, rfl, subT⟩⟩, ⟨⟨_, rfl, subT⟩, trivial⟩⟩ () SubL.rfl' (List.nil_sublist _)
  have e : writeR p r = (writeV p r, 0) := by unfold writeR; rw [if_neg (by rw [h1]; simp)]
  rw [e]
  refine JC_skip (JQ_then (JC_seq ?_))
  refine JC_dr rfl (by kernel_rfl) ?_
  refine JD_stretch 11 (by kernel_rfl) ?_
  refine JW_1 (by first | exact op_fieldPtr (k := 0) (Ev.rfl' rfl) rfl rfl rfl rfl | exact op_fieldRefN (k := 0) (Ev.rfl' rfl) rfl rfl rfl rfl nrmT) ?_
  refine JW_1 (by first | exact op_loadRefsN (n := 2) (Ev.rfl' rfl) rfl rfl rfl (by rfl) nrmT | exact op_loadPtrsN (n := 2) (Ev.rfl' rfl) memT (by rfl) (by rfl) (by rfl) (by rfl) nrmT) ?_
  refine JW_1 (op_call Tryd.call31 (Pack_ok _) ⟨evS, trivial⟩) ?_
  refine JW_1 (op_conv (Ev.rfl' rfl) rfl rfl convT) ?_
  refine JW_1 (by first | exact op_fieldPtr (k := 2) (Ev.rfl' rfl) rfl rfl rfl rfl | exact op_fieldRefN (k := 2) (Ev.rfl' rfl) rfl rfl rfl rfl nrmT) ?_
  refine JW_1 (by first | exact op_loadRef (Ev.rfl' rfl) rfl rfl rfl | exact op_loadPtr (Ev.rfl' rfl) memT (by rfl) (by rfl) (by rfl)) ?_
  refine JW_1 (op_conv (Ev.rfl' rfl) rfl rfl convT) ?_
  refine JW_1 (by first | exact op_shlU (k := 32) ev64 (Ev.rfl' rfl) (by first | omega | exact UV_nonneg _) idxT | exact op_shl (Ev.rfl' rfl) (Ev.rfl' rfl) (by first | omega | exact UV_nonneg _) rfl) ?_
  refine JW_1 (by first | exact op_bits ev64 ev64 (by simp) (or_u64 _ _) | exact op_bits (Ev.rfl' rfl) (Ev.rfl' rfl) (by simp) rfl) ?_
  refine JW_1 (by first | exact op_fieldPtr (k := 2) (Ev.rfl' rfl) rfl rfl rfl rfl | exact op_fieldRefN (k := 2) (Ev.rfl' rfl) rfl rfl rfl rfl nrmT) ?_
  refine JW_1 (op_indexArr (k := 1) (sz := 1) (Ev.rfl' rfl) (Ev.rfl' rfl) rfl rfl idxT (by first | decide | omega)) ?_
  refine ⟨rfl, ?_⟩
  refine JD_s0 (by kernel_rfl) rfl (op_storeN (Ev.rfl' rfl) (Ev.rfl' rfl) cellsT replT nrmT (by rfl) (by rfl) (by rfl)) ?_
  refine JD_end ?_
  refine JQ_then (JC_seq (JC_seq ?_))
  refine JC_region ?_
  refine JL_1 rfl (op_assign rfl) ?_
  refine JL_nil ?_
  refine JQ_then (JC_block ?_)
  refine JC_loopP (fun k : Nat => k = 0 ∨ k = 2 ∨ k = 4) (fun k => [(2, Is (.pointer (some ⟨i2, 0, none⟩))), (3, Is (.pointer (some ⟨i3, 0, none⟩))), (4, Is (.pointer (some ⟨i4, 0, none⟩))), (6, Is (.int .i64 (k : Nat)))]) (fun k => [blk i2 25 (tPg.cells (writeK p r k)), blk i4 25 (tPg.cells Pg.nil), blk i3 30 (tRt.cells r), gNone]) (fun k => 4 - k) 0 (Or.inl rfl) esubT lessT ?_
  rintro k hk
  refine JC_seq (JC_seq ?_)
  refine JC_region ?_
  refine JL_1 rfl (op_move rfl) ?_
  refine JL_1 rfl (op_lss (Ev.rfl' rfl) (Ev.rfl' rfl)) ?_
  refine JL_nil ?_
  refine JQ_then ?_
  refine JC_cond (Ev.rfl' rfl) (fun h5 => ?_) (fun h5 => ?_)
  · have hk4 : k = 0 ∨ k = 2 := by have := of_decide_eq_true h5; omega
    clear h5 hk
    rcases hk4 with rfl | rfl
    all_goals
      refine JC_skip (JQ_then (JC_seq (JC_block ?_)))
      refine JC_dr rfl (by kernel_rfl) ?_
      refine JD_stretch 20 (by kernel_rfl) ?_
      refine JW_1 (op_move rfl) ?_
      refine JW_1 (op_quo (Ev.rfl' rfl) (Ev.rfl' rfl) (by omega) wrapT) ?_
      refine JW_1 (op_add (Ev.rfl' rfl) (Ev.rfl' rfl) wrapT) ?_
      refine JW_1 (op_move rfl) ?_
      refine JW_1 (by first | exact op_fieldPtr (k := 3) (Ev.rfl' rfl) rfl rfl rfl rfl | exact op_fieldRefN (k := 3) (Ev.rfl' rfl) rfl rfl rfl rfl nrmT) ?_
      refine JW_1 (op_indexArr (k := _) (sz := 2) (Ev.rfl' rfl) (Ev.rfl' rfl) rfl rfl idxT (by first | decide | omega)) ?_
      refine JW_1 (by first | exact op_loadRefsN (n := 2) (Ev.rfl' rfl) rfl rfl rfl (by rfl) nrmT | exact op_loadPtrsN (n := 2) (Ev.rfl' rfl) memT (by rfl) (by rfl) (by rfl) (by rfl) nrmT) ?_
      refine JW_1 (op_call Tryd.call31 (Pack_ok _) ⟨evS, trivial⟩) ?_
      refine JW_1 (op_conv (Ev.rfl' rfl) rfl rfl convT) ?_
      refine JW_1 (op_move rfl) ?_
      refine JW_1 (op_add (Ev.rfl' rfl) (Ev.rfl' rfl) wrapT) ?_
      refine JW_1 (by first | exact op_fieldPtr (k := 3) (Ev.rfl' rfl) rfl rfl rfl rfl | exact op_fieldRefN (k := 3) (Ev.rfl' rfl) rfl rfl rfl rfl nrmT) ?_
      refine JW_1 (by first | exact op_indexArr (k := 1) (sz := 2) (Ev.rfl' rfl) (Ev.rfl' rfl) rfl rfl (by decide) (by decide) | exact op_indexArr (k := 3) (sz := 2) (Ev.rfl' rfl) (Ev.rfl' rfl) rfl rfl (by decide) (by decide)) ?_
      refine JW_1 (by first | exact op_loadRefsN (n := 2) (Ev.rfl' rfl) rfl rfl rfl (by rfl) nrmT | exact op_loadPtrsN (n := 2) (Ev.rfl' rfl) memT (by rfl) (by rfl) (by rfl) (by rfl) nrmT) ?_
      refine JW_1 (op_call Tryd.call31 (Pack_ok _) ⟨evS, trivial⟩) ?_
      refine JW_1 (op_conv (Ev.rfl' rfl) rfl rfl convT) ?_
      refine JW_1 (by first | exact op_shlU (k := 32) ev64 (Ev.rfl' rfl) (by first | omega | exact UV_nonneg _) idxT | exact op_shl (Ev.rfl' rfl) (Ev.rfl' rfl) (by first | omega | exact UV_nonneg _) rfl) ?_
      refine JW_1 (by first | exact op_bits ev64 ev64 (by simp) (or_u64 _ _) | exact op_bits (Ev.rfl' rfl) (Ev.rfl' rfl) (by simp) rfl) ?_
      refine JW_1 (by first | exact op_fieldPtr (k := 2) (Ev.rfl' rfl) rfl rfl rfl rfl | exact op_fieldRefN (k := 2) (Ev.rfl' rfl) rfl rfl rfl rfl nrmT) ?_
      refine JW_1 (by first | exact op_indexArr (k := 2) (sz := 1) (Ev.rfl' rfl) (Ev.rfl' rfl) rfl rfl (by decide) (by decide) | exact op_indexArr (k := 3) (sz := 1) (Ev.rfl' rfl) (Ev.rfl' rfl) rfl rfl (by decide) (by decide)) ?_
      refine ⟨rfl, ?_⟩
      refine JD_s0 (by kernel_rfl) rfl (op_storeN (Ev.rfl' rfl) (Ev.rfl' rfl) cellsT replT nrmT (by rfl) (by rfl) (by rfl)) ?_
      refine JD_end ?_
      refine JQ_block (JQ_then ?_)
      refine JC_region ?_
      refine JL_1 rfl (op_move rfl) ?_
      refine JL_1 rfl (op_add (Ev.rfl' rfl) (Ev.rfl' rfl) wrapT) ?_
      refine JL_1 rfl (op_assign rfl) ?_
      refine JL_nil ?_
      first | exact JQ_roundP 2 (by omega) (by omega) esubT lessT | exact JQ_roundP 4 (by omega) (by omega) esubT lessT
  have hk4 : k = 4 := by have := of_decide_eq_false h5; omega
  subst hk4
  refine JC_exit (JQ_then_exit (JQ_then_exit (JQ_hit (JQ_then (JC_seq ?_)))))
  refine JC_region ?_
  refine JL_1 rfl (by first | exact op_loadRefsN (n := 9) (Ev.rfl' rfl) rfl rfl rfl (by rfl) nrmT | exact op_loadPtrsN (n := 9) (Ev.rfl' rfl) memT (by rfl) (by rfl) (by rfl) (by rfl) nrmT) ?_
  refine JL_s0 (op_storeN (Ev.rfl' rfl) (Ev.rfl' rfl) cellsT replT nrmT (by rfl) (by rfl) (by rfl)) ?_
  refine JL_1 rfl (op_assign rfl) ?_
  refine JL_nil ?_
  refine JQ_then (JC_ret ?_)
  exact JQ_ret (Bs := [IsPg (writeV p r), Is (.int .i64 0)]) Tryd.results10 ⟨⟨_, _, _, _, rfl, memT, rfl, .inr ⟨rfl, _, rfl, rfl, subT⟩⟩, ⟨⟨_, rfl, subT⟩, trivial⟩⟩ () SubL.rfl' (List.nil_sublist _)
-- bodegaref23.WriteRoot: function 11
set_option maxHeartbeats 4000000 in
theorem WriteRootR_ok (p : Pg) (r : Rt) : FnP Tryd.prog 11 [IsPg p, IsRt r] (IsTup [IsPg (writeR p r).1, Is (.int .i64 (writeR p r).2)]) := by
  refine FnP.enter Tryd.func11 Tryd.ntmps11 rfl rfl ?_
  intro c hX
  refine JC_seq ?_
  refine JC_region ?_
  (refine JL_n rfl (op_box (Ev.rfl' rfl) cellsT) ?_; intro i2)
  (refine JL_n rfl (op_box (Ev.rfl' rfl) cellsT) ?_; intro i3)
  (refine JL_n rfl (op_allocN rfl nrmT rfl) ?_; intro i4)
  refine JL_1 rfl (op_assign rfl) ?_
  refine JL_nil ?_
  refine JQ_then (JC_seq (JC_seq ?_))
  refine JC_region ?_
  refine JL_1 rfl (by first | exact op_fieldPtr (k := 0) (Ev.rfl' rfl) rfl rfl rfl rfl | exact op_fieldRefN (k := 0) (Ev.rfl' rfl) rfl rfl rfl rfl nrmT) ?_
  refine JL_1 rfl (by first | exact op_loadRef (Ev.rfl' rfl) rfl rfl rfl | exact op_loadPtr (Ev.rfl' rfl) memT (by rfl) (by rfl) (by rfl)) ?_
  refine JL_1 rfl (op_neq (Ev.rfl' rfl) (Ev.rfl' rfl)) ?_
  refine JL_1 rfl (op_move rfl) ?_
  (first | refine JL_i0 rfl rfl rfl (fun hg => (by have hg0 := hg; (try simp at hg); first | exact op_loadRefsN (n := 11) evG rfl rfl rfl (by rfl) nrmT | exact op_loadPtrsN (n := 11) evG memT (by rfl) (by rfl) (by rfl) (by rfl) nrmT)) ?_ | refine JL_i rfl rfl rfl (fun hp hg => (by have hpg := Bool.and_eq_true_iff.2 ⟨hp, hg⟩; have hg0 := hg; (try simp at hg); first | exact op_loadRefsN (n := 11) evG rfl rfl rfl (by rfl) nrmT | exact op_loadPtrsN (n := 11) evG memT (by rfl) (by rfl) (by rfl) (by rfl) nrmT)) ?_)
  (first | refine JL_i0 rfl rfl rfl (fun hg => (by have hg0 := hg; (try simp at hg); exact op_call Tryd.call30 (ValidRoot_ok _) ⟨evS, trivial⟩)) ?_ | refine JL_i rfl rfl rfl (fun hp hg => (by have hpg := Bool.and_eq_true_iff.2 ⟨hp, hg⟩; have hg0 := hg; (try simp at hg); exact op_call Tryd.call30 (ValidRoot_ok _) ⟨evS, trivial⟩)) ?_)
  (first | refine JL_i0 rfl rfl rfl (fun hg => (by have hg0 := hg; (try simp at hg); exact op_not evG)) ?_ | refine JL_i rfl rfl rfl (fun hp hg => (by have hpg := Bool.and_eq_true_iff.2 ⟨hp, hg⟩; have hg0 := hg; (try simp at hg); exact op_not evG)) ?_)
  refine JL_1 rfl (op_or (Ev.rfl' rfl) rfl (fun h => by first | exact SubL.rfl' | exact SubL.iteT (by first | (rw [h]; rfl) | (simp_all; done)) SubL.rfl')) ?_
  refine JL_nil ?_
  refine JQ_then ?_
  refine JC_cond (Ev.rfl' rfl) (fun h1 => ?_) (fun h1 => ?_)
  · have e : writeR p r = (Pg.nil, 1) := by unfold writeR; rw [if_pos h1]
    rw [e]
    refine JC_seq ?_
    refine JC_region ?_
    refine JL_1 rfl (op_buildN (qs := []) rfl rfl rfl rfl trivial (by rfl) nrmT) ?_
    refine JL_s0 (op_storeN (Ev.rfl' rfl) (Ev.rfl' rfl) cellsT replT nrmT (by rfl) (by rfl) (by rfl)) ?_
    refine JL_1 rfl (op_assign rfl) ?_
    refine JL_nil ?_
    refine JQ_then (JC_ret (JQ_then_ret ?_))
    exact JQ_ret (Bs := [IsPg Pg.nil, Is (.int .i64 1)]) Tryd.results11 ⟨⟨_, _, _, _, rfl, memT, rfl, .inr ⟨rfl, _, rfl, rfl, subT⟩⟩, ⟨⟨_, rfl, subT⟩, trivial⟩⟩ () SubL.rfl' (List.nil_sublist _)
  have e : writeR p r = (writeV p r, 0) := by unfold writeR; rw [if_neg (by rw [h1]; simp)]
  rw [e]
  refine JC_skip (JQ_then (JC_seq ?_))
  refine JC_region ?_
  refine JL_1 rfl (by first | exact op_loadRefsN (n := 9) (Ev.rfl' rfl) rfl rfl rfl (by rfl) nrmT | exact op_loadPtrsN (n := 9) (Ev.rfl' rfl) memT (by rfl) (by rfl) (by rfl) (by rfl) nrmT) ?_
  (refine JL_n rfl (op_allocN rfl nrmT rfl) ?_; intro i6)
  refine JL_s0 (op_storeN (Ev.rfl' rfl) (Ev.rfl' rfl) cellsT replT nrmT (by rfl) (by rfl) (by rfl)) ?_
  refine JL_nil ?_
  refine JQ_then (JC_seq ?_)
  refine JC_dr rfl (by kernel_rfl) ?_
  refine JD_stretch 11 (by kernel_rfl) ?_
  refine JW_1 (by first | exact op_fieldPtr (k := 0) (Ev.rfl' rfl) rfl rfl rfl rfl | exact op_fieldRefN (k := 0) (Ev.rfl' rfl) rfl rfl rfl rfl nrmT) ?_
  refine JW_1 (by first | exact op_loadRefsN (n := 2) (Ev.rfl' rfl) rfl rfl rfl (by rfl) nrmT | exact op_loadPtrsN (n := 2) (Ev.rfl' rfl) memT (by rfl) (by rfl) (by rfl) (by rfl) nrmT) ?_
  refine JW_1 (op_call Tryd.call32 (PackR_ok _) ⟨evS, trivial⟩) ?_
  refine JW_1 (op_conv (Ev.rfl' rfl) rfl rfl convT) ?_
  refine JW_1 (by first | exact op_fieldPtr (k := 2) (Ev.rfl' rfl) rfl rfl rfl rfl | exact op_fieldRefN (k := 2) (Ev.rfl' rfl) rfl rfl rfl rfl nrmT) ?_
  refine JW_1 (by first | exact op_loadRef (Ev.rfl' rfl) rfl rfl rfl | exact op_loadPtr (Ev.rfl' rfl) memT (by rfl) (by rfl) (by rfl)) ?_
  refine JW_1 (op_conv (Ev.rfl' rfl) rfl rfl convT) ?_
  refine JW_1 (by first | exact op_shlU (k := 32) ev64 (Ev.rfl' rfl) (by first | omega | exact UV_nonneg _) idxT | exact op_shl (Ev.rfl' rfl) (Ev.rfl' rfl) (by first | omega | exact UV_nonneg _) rfl) ?_
  refine JW_1 (by first | exact op_binU ev64 ev64 (add_u64 _ _ _) | exact op_add (Ev.rfl' rfl) (Ev.rfl' rfl) wrapT) ?_
  refine JW_1 (by first | exact op_fieldPtr (k := 2) (Ev.rfl' rfl) rfl rfl rfl rfl | exact op_fieldRefN (k := 2) (Ev.rfl' rfl) rfl rfl rfl rfl nrmT) ?_
  refine JW_1 (op_indexArr (k := 1) (sz := 1) (Ev.rfl' rfl) (Ev.rfl' rfl) rfl rfl idxT (by first | decide | omega)) ?_
  refine ⟨rfl, ?_⟩
  refine JD_s0 (by kernel_rfl) rfl (op_storeN (Ev.rfl' rfl) (Ev.rfl' rfl) cellsT replT nrmT (by rfl) (by rfl) (by rfl)) ?_
  refine JD_end ?_
  refine JQ_then (JC_seq (JC_seq ?_))
  rw [add_or]
  refine JC_region ?_
  refine JL_1 rfl (op_assign rfl) ?_
  refine JL_nil ?_
  refine JQ_then (JC_block ?_)
  refine JC_loopP (fun k : Nat => k ≤ 2) (fun k => [(3, Is (.pointer (some ⟨i3, 0, none⟩))), (4, Is (.pointer (some ⟨i4, 0, none⟩))), (6, Is (.pointer (some ⟨i6, 0, none⟩))), (7, Is (.int .i64 (k : Nat)))]) (fun k => [blk i6 25 (tPg.cells (writeK p r (2 * k))), blk i4 25 (tPg.cells Pg.nil), blk i3 39 (tRt.cells r)]) (fun k => 2 - k) 0 (Nat.zero_le _) esubT lessT ?_
  rintro k hk
  refine JC_seq (JC_seq ?_)
  refine JC_region ?_
  refine JL_1 rfl (op_move rfl) ?_
  refine JL_1 rfl (op_lss (Ev.rfl' rfl) (Ev.rfl' rfl)) ?_
  refine JL_nil ?_
  refine JQ_then ?_
  refine JC_cond (Ev.rfl' rfl) (fun h6 => ?_) (fun h6 => ?_)
  · have hk4 : k = 0 ∨ k = 1 := by have := of_decide_eq_true h6; omega
    clear h6
    rcases hk4 with rfl | rfl
    all_goals
      refine JC_skip (JQ_then (JC_seq (JC_block ?_)))
      refine JC_dr rfl (by kernel_rfl) ?_
      refine JD_stretch 21 (by kernel_rfl) ?_
      refine JW_1 (op_move rfl) ?_
      refine JW_1 (op_add (Ev.rfl' rfl) (Ev.rfl' rfl) wrapT) ?_
      refine JW_1 (op_move rfl) ?_
      refine JW_1 (op_mul (Ev.rfl' rfl) (Ev.rfl' rfl) wrapT) ?_
      refine JW_1 (by first | exact op_fieldPtr (k := 3) (Ev.rfl' rfl) rfl rfl rfl rfl | exact op_fieldRefN (k := 3) (Ev.rfl' rfl) rfl rfl rfl rfl nrmT) ?_
      refine JW_1 (by first | exact op_indexArr (k := 0) (sz := 2) (Ev.rfl' rfl) (Ev.rfl' rfl) rfl rfl (by decide) (by decide) | exact op_indexArr (k := 2) (sz := 2) (Ev.rfl' rfl) (Ev.rfl' rfl) rfl rfl (by decide) (by decide)) ?_
      refine JW_1 (by first | exact op_loadRefsN (n := 2) (Ev.rfl' rfl) rfl rfl rfl (by rfl) nrmT | exact op_loadPtrsN (n := 2) (Ev.rfl' rfl) memT (by rfl) (by rfl) (by rfl) (by rfl) nrmT) ?_
      refine JW_1 (op_call Tryd.call32 (PackR_ok _) ⟨evS, trivial⟩) ?_
      refine JW_1 (op_conv (Ev.rfl' rfl) rfl rfl convT) ?_
      refine JW_1 (op_move rfl) ?_
      refine JW_1 (op_mul (Ev.rfl' rfl) (Ev.rfl' rfl) wrapT) ?_
      refine JW_1 (op_add (Ev.rfl' rfl) (Ev.rfl' rfl) wrapT) ?_
      refine JW_1 (by first | exact op_fieldPtr (k := 3) (Ev.rfl' rfl) rfl rfl rfl rfl | exact op_fieldRefN (k := 3) (Ev.rfl' rfl) rfl rfl rfl rfl nrmT) ?_
      refine JW_1 (by first | exact op_indexArr (k := 1) (sz := 2) (Ev.rfl' rfl) (Ev.rfl' rfl) rfl rfl (by decide) (by decide) | exact op_indexArr (k := 3) (sz := 2) (Ev.rfl' rfl) (Ev.rfl' rfl) rfl rfl (by decide) (by decide)) ?_
      refine JW_1 (by first | exact op_loadRefsN (n := 2) (Ev.rfl' rfl) rfl rfl rfl (by rfl) nrmT | exact op_loadPtrsN (n := 2) (Ev.rfl' rfl) memT (by rfl) (by rfl) (by rfl) (by rfl) nrmT) ?_
      refine JW_1 (op_call Tryd.call32 (PackR_ok _) ⟨evS, trivial⟩) ?_
      refine JW_1 (op_conv (Ev.rfl' rfl) rfl rfl convT) ?_
      refine JW_1 (by first | exact op_shlU (k := 32) ev64 (Ev.rfl' rfl) (by first | omega | exact UV_nonneg _) idxT | exact op_shl (Ev.rfl' rfl) (Ev.rfl' rfl) (by first | omega | exact UV_nonneg _) rfl) ?_
      refine JW_1 (by first | exact op_binU ev64 ev64 (add_u64 _ _ _) | exact op_add (Ev.rfl' rfl) (Ev.rfl' rfl) wrapT) ?_
      refine JW_1 (by first | exact op_fieldPtr (k := 2) (Ev.rfl' rfl) rfl rfl rfl rfl | exact op_fieldRefN (k := 2) (Ev.rfl' rfl) rfl rfl rfl rfl nrmT) ?_
      refine JW_1 (by first | exact op_indexArr (k := 2) (sz := 1) (Ev.rfl' rfl) (Ev.rfl' rfl) rfl rfl (by decide) (by decide) | exact op_indexArr (k := 3) (sz := 1) (Ev.rfl' rfl) (Ev.rfl' rfl) rfl rfl (by decide) (by decide)) ?_
      refine ⟨rfl, ?_⟩
      refine JD_s0 (by kernel_rfl) rfl (op_storeN (Ev.rfl' rfl) (Ev.rfl' rfl) cellsT replT nrmT (by rfl) (by rfl) (by rfl)) ?_
      refine JD_end ?_
      refine JQ_block (JQ_then ?_)
      rw [add_or]
      refine JC_region ?_
      refine JL_1 rfl (op_move rfl) ?_
      refine JL_1 rfl (op_add (Ev.rfl' rfl) (Ev.rfl' rfl) wrapT) ?_
      refine JL_1 rfl (op_assign rfl) ?_
      refine JL_nil ?_
      first | exact JQ_roundP 1 (by omega) (by omega) esubT lessT | exact JQ_roundP 2 (by omega) (by omega) esubT lessT
  have hk4 : k = 2 := by have := of_decide_eq_false h6; omega
  subst hk4
  refine JC_exit (JQ_then_exit (JQ_then_exit (JQ_hit (JQ_then (JC_seq ?_)))))
  refine JC_region ?_
  refine JL_1 rfl (by first | exact op_loadRefsN (n := 9) (Ev.rfl' rfl) rfl rfl rfl (by rfl) nrmT | exact op_loadPtrsN (n := 9) (Ev.rfl' rfl) memT (by rfl) (by rfl) (by rfl) (by rfl) nrmT) ?_
  refine JL_s0 (op_storeN (Ev.rfl' rfl) (Ev.rfl' rfl) cellsT replT nrmT (by rfl) (by rfl) (by rfl)) ?_
  refine JL_1 rfl (op_assign rfl) ?_
  refine JL_nil ?_
  refine JQ_then (JC_ret ?_)
  exact JQ_ret (Bs := [IsPg (writeV p r), Is (.int .i64 0)]) Tryd.results11 ⟨⟨_, _, _, _, rfl, memT, rfl, .inr ⟨rfl, _, rfl, rfl, subT⟩⟩, ⟨⟨_, rfl, subT⟩, trivial⟩⟩ () SubL.rfl' (List.nil_sublist _)
end Go.Proofs.YtmcaomdjlepapaaDoor

/- The contract of bodegahand.Pick: the remainder that is not negative. Own work. -/
namespace Go.Proofs.YtmcaomdjlepapaaDoor
open Go.RowKit
set_option linter.unusedVariables false
set_option linter.unusedSimpArgs false
theorem pick_emod (n k : Int) (h : 1 ≤ k) : (n.tmod k + k) % k = n % k := by
  rw [Int.add_emod_right, Int.tmod_eq_emod]
  split
  · show (n % k - 0) % k = _; rw [Int.sub_zero, Int.emod_emod_of_dvd _ (Int.dvd_refl k)]
  · rw [Int.natAbs_of_nonneg (by omega), Int.sub_emod, Int.emod_self]; simp
theorem Pick_any (n k : Int) (w : World) (hb : 1 ≤ k) (hb2 : k ≤ 4611686018427387903) :
    Calls Tryd.prog 6 #[.int .i64 n, .int .i64 k] w fun e w' => e = .returned (.int .i64 (n % k)) ∧ w = w' := by
  have h1 := Int.tmod_lt_of_pos n (show 0 < k by omega)
  have h2 := Int.lt_tmod_of_pos n (show 0 < k by omega)
  have H := Lib.hid (pick_emod n k hb)
  go_enter Tryd.func6, Tryd.ntmps6
  go_wp2
  go_ret
  refine ⟨?_, rfl⟩
  rw [← H.out]
  rfl
/-- The same, the remainder as a new number. -/
theorem Pick_ex (n k : Int) (w : World) (hb : 1 ≤ k) (hb2 : k ≤ 4611686018427387903) :
    Calls Tryd.prog 6 #[.int .i64 n, .int .i64 k] w fun e w' => ∃ r : Int, e = .returned (.int .i64 r) ∧ 0 ≤ r ∧ r < k ∧ Hid (r = n % k) ∧ w = w' :=
  (Pick_any n k w hb hb2).mono fun e w' ⟨he, hw⟩ => ⟨n % k, he, Int.emod_nonneg _ (by omega), Int.emod_lt_of_pos _ (by omega), rfl, hw⟩
/-- Inside a region that draws: the remainder as a new natural number. -/
theorem call_pick {W : World} {K : Value → Prop} (n k : Int) (hb : 1 ≤ k) (hb2 : k ≤ 4611686018427387903) (h : ∀ j : Nat, (j : Int) < k → Hid ((j : Int) = n % k) → K (.int .i64 (j : Int))) :
    ∃ v, Calls Tryd.prog 6 #[.int .i64 n, .int .i64 k] W (fun e w'' => e = .returned v ∧ w'' = W) ∧ K v := by
  obtain ⟨j, hj⟩ := Int.eq_ofNat_of_zero_le (Int.emod_nonneg n (show k ≠ 0 by omega))
  have hlt := Int.emod_lt_of_pos n (show 0 < k by omega)
  refine ⟨_, (Pick_any n k W hb hb2).mono fun e w' ⟨he, hw⟩ => ⟨he, hw.symm⟩, ?_⟩
  rw [hj]
  exact h j (by omega) hj.symm
end Go.Proofs.YtmcaomdjlepapaaDoor

/- Contracts: what the law makes of roots and pages. Own work. -/
namespace Go.Proofs.YtmcaomdjlepapaaDoor
open Go.RowKit
set_option linter.unusedVariables false
set_option linter.unusedSimpArgs false
set_option maxRecDepth 100000
-- bodegalaw23.ref: function 33
theorem ref_ok (p : Pt) : FnP Tryd.prog 33 [IsPt p] (IsPt p) := by
  refine FnP.enter Tryd.func33 Tryd.ntmps33 rfl rfl ?_
  intro c hX
  refine JC_seq ?_
  refine JC_region ?_
  (refine JL_n rfl (op_box (Ev.rfl' rfl) cellsT) ?_; intro i1)
  (refine JL_n rfl (op_allocN rfl nrmT rfl) ?_; intro i2)
  refine JL_nil ?_
  refine JQ_then (JC_seq ?_)
  refine JC_region ?_
  refine JL_1 rfl (by first | exact op_fieldPtr (k := 0) (Ev.rfl' rfl) rfl rfl rfl rfl | exact op_fieldRefN (k := 0) (Ev.rfl' rfl) rfl rfl rfl rfl nrmT) ?_
  refine JL_1 rfl (by first | exact op_loadRef (Ev.rfl' rfl) rfl rfl rfl | exact op_loadPtr (Ev.rfl' rfl) memT (by rfl) (by rfl) (by rfl)) ?_
  refine JL_1 rfl (by first | exact op_fieldPtr (k := 1) (Ev.rfl' rfl) rfl rfl rfl rfl | exact op_fieldRefN (k := 1) (Ev.rfl' rfl) rfl rfl rfl rfl nrmT) ?_
  refine JL_1 rfl (by first | exact op_loadRef (Ev.rfl' rfl) rfl rfl rfl | exact op_loadPtr (Ev.rfl' rfl) memT (by rfl) (by rfl) (by rfl)) ?_
  refine JL_1 rfl (op_buildN (qs := [(0, _), (1, _)]) rfl rfl rfl rfl ⟨⟨rfl, _, (Ev.rfl' rfl), cellsT⟩, ⟨⟨rfl, _, (Ev.rfl' rfl), cellsT⟩, trivial⟩⟩ (by rfl) nrmT) ?_
  refine JL_s0 (op_storeN (Ev.rfl' rfl) (Ev.rfl' rfl) cellsT replT nrmT (by rfl) (by rfl) (by rfl)) ?_
  refine JL_nil ?_
  refine JQ_then (JC_ret ?_)
  exact JQ_ret (Bs := [IsPt p]) Tryd.results33 ⟨⟨_, _, _, _, rfl, memT, rfl, .inr ⟨rfl, _, rfl, rfl, subT⟩⟩, trivial⟩ () SubL.rfl' (List.nil_sublist _)
theorem pick_tmod (n k : Int) (h : 1 ≤ k) : (n.tmod k + k).tmod k = n % k := by
  have h2 := Int.lt_tmod_of_pos n (show 0 < k by omega)
  rw [Int.tmod_eq_emod_of_nonneg (by omega), pick_emod n k h]
-- bodegahand.Pick: function 6
theorem PickH_ok (n k : Int) (hb : 1 ≤ k) (hb2 : k ≤ 4611686018427387903) : FnP Tryd.prog 6 [Is (.int .i64 n), Is (.int .i64 k)] (Is (.int .i64 (n % k))) := by
  have h1 := Int.tmod_lt_of_pos n (show 0 < k by omega)
  have h2 := Int.lt_tmod_of_pos n (show 0 < k by omega)
  refine FnP.enter Tryd.func6 Tryd.ntmps6 rfl rfl ?_
  intro c hX
  (repeat (first | with_reducible refine JC_seq ?_ | with_reducible refine JQ_then ?_ | with_reducible refine JC_block ?_ | with_reducible refine JC_skip ?_ | with_reducible refine JC_exit ?_ | with_reducible refine JQ_then_exit ?_ | with_reducible refine JQ_then_ret ?_ | with_reducible refine JQ_block ?_ | with_reducible refine JQ_block_ret ?_ | with_reducible refine JQ_hit ?_ | ((with_reducible refine JQ_block_miss ?_ ?_); (focus exact rfl)) | with_reducible refine JC_ret ?_ | with_reducible refine JQ_end ?_))
  refine JC_region ?_
  refine JL_1 rfl (op_assign rfl) ?_
  refine JL_nil ?_
  (repeat (first | with_reducible refine JC_seq ?_ | with_reducible refine JQ_then ?_ | with_reducible refine JC_block ?_ | with_reducible refine JC_skip ?_ | with_reducible refine JC_exit ?_ | with_reducible refine JQ_then_exit ?_ | with_reducible refine JQ_then_ret ?_ | with_reducible refine JQ_block ?_ | with_reducible refine JQ_block_ret ?_ | with_reducible refine JQ_hit ?_ | ((with_reducible refine JQ_block_miss ?_ ?_); (focus exact rfl)) | with_reducible refine JC_ret ?_ | with_reducible refine JQ_end ?_))
  (repeat (first | with_reducible refine JC_seq ?_ | with_reducible refine JQ_then ?_ | with_reducible refine JC_block ?_ | with_reducible refine JC_skip ?_ | with_reducible refine JC_exit ?_ | with_reducible refine JQ_then_exit ?_ | with_reducible refine JQ_then_ret ?_ | with_reducible refine JQ_block ?_ | with_reducible refine JQ_block_ret ?_ | with_reducible refine JQ_hit ?_ | ((with_reducible refine JQ_block_miss ?_ ?_); (focus exact rfl)) | with_reducible refine JC_ret ?_ | with_reducible refine JQ_end ?_))
  refine JC_region ?_
  refine JL_1 rfl (op_move rfl) ?_
  refine JL_1 rfl (op_lss (Ev.rfl' rfl) (Ev.rfl' rfl)) ?_
  refine JL_nil ?_
  (repeat (first | with_reducible refine JC_seq ?_ | with_reducible refine JQ_then ?_ | with_reducible refine JC_block ?_ | with_reducible refine JC_skip ?_ | with_reducible refine JC_exit ?_ | with_reducible refine JQ_then_exit ?_ | with_reducible refine JQ_then_ret ?_ | with_reducible refine JQ_block ?_ | with_reducible refine JQ_block_ret ?_ | with_reducible refine JQ_hit ?_ | ((with_reducible refine JQ_block_miss ?_ ?_); (focus exact rfl)) | with_reducible refine JC_ret ?_ | with_reducible refine JQ_end ?_))
  refine JC_cond (Ev.rfl' rfl) (fun h => absurd (of_decide_eq_true h) (by omega)) (fun h => ?_)
  (repeat (first | with_reducible refine JC_seq ?_ | with_reducible refine JQ_then ?_ | with_reducible refine JC_block ?_ | with_reducible refine JC_skip ?_ | with_reducible refine JC_exit ?_ | with_reducible refine JQ_then_exit ?_ | with_reducible refine JQ_then_ret ?_ | with_reducible refine JQ_block ?_ | with_reducible refine JQ_block_ret ?_ | with_reducible refine JQ_hit ?_ | ((with_reducible refine JQ_block_miss ?_ ?_); (focus exact rfl)) | with_reducible refine JC_ret ?_ | with_reducible refine JQ_end ?_))
  refine JC_region ?_
  refine JL_1 rfl (op_move rfl) ?_
  refine JL_1 rfl (op_move rfl) ?_
  refine JL_1 rfl (op_rem (Ev.rfl' rfl) (Ev.rfl' rfl) (by omega) rfl) ?_
  refine JL_1 rfl (op_move rfl) ?_
  refine JL_1 rfl (op_add (Ev.rfl' rfl) (Ev.rfl' rfl) wrapT) ?_
  refine JL_1 rfl (op_move rfl) ?_
  refine JL_1 rfl (op_rem (Ev.rfl' rfl) (Ev.rfl' rfl) (by omega) rfl) ?_
  refine JL_1 rfl (op_assign rfl) ?_
  refine JL_nil ?_
  (repeat (first | with_reducible refine JC_seq ?_ | with_reducible refine JQ_then ?_ | with_reducible refine JC_block ?_ | with_reducible refine JC_skip ?_ | with_reducible refine JC_exit ?_ | with_reducible refine JQ_then_exit ?_ | with_reducible refine JQ_then_ret ?_ | with_reducible refine JQ_block ?_ | with_reducible refine JQ_block_ret ?_ | with_reducible refine JQ_hit ?_ | ((with_reducible refine JQ_block_miss ?_ ?_); (focus exact rfl)) | with_reducible refine JC_ret ?_ | with_reducible refine JQ_end ?_))
  exact JQ_ret1 Tryd.results6 rfl () (SubL.eq (by rw [pick_tmod n k hb])) (List.nil_sublist _)
-- bodegalaw23.aim: function 7
theorem aim_ok (p : Pt) : FnP Tryd.prog 7 [IsPt p] (VEx fun q : Pt => IsPt q) := by
  refine FnP.enter Tryd.func7 Tryd.ntmps7 rfl rfl ?_
  intro c hX
  refine JC_seq ?_
  refine JC_region ?_
  (refine JL_n rfl (op_box (Ev.rfl' rfl) cellsT) ?_; intro i1)
  (refine JL_n rfl (op_allocN rfl nrmT rfl) ?_; intro i2)
  refine JL_nil ?_
  refine JQ_then (JC_seq (JC_seq ?_))
  refine JC_region ?_
  refine JL_1 rfl (by first | exact op_fieldPtr (k := 1) (Ev.rfl' rfl) rfl rfl rfl rfl | exact op_fieldRefN (k := 1) (Ev.rfl' rfl) rfl rfl rfl rfl nrmT) ?_
  refine JL_1 rfl (by first | exact op_loadRef (Ev.rfl' rfl) rfl rfl rfl | exact op_loadPtr (Ev.rfl' rfl) memT (by rfl) (by rfl) (by rfl)) ?_
  refine JL_1 rfl (op_rem (Ev.rfl' rfl) (Ev.rfl' rfl) (by omega) rfl) ?_
  refine JL_1 rfl (op_eql (Ev.rfl' rfl) (Ev.rfl' rfl)) ?_
  refine JL_nil ?_
  refine JQ_then ?_
  refine JC_cond (Ev.rfl' rfl) (fun h1 => ?_) (fun h1 => ?_)
  · refine JC_seq ?_
    refine JC_region ?_
    refine JL_1 rfl (op_buildN (qs := []) rfl rfl rfl rfl trivial (by rfl) nrmT) ?_
    refine JL_s0 (op_storeN (Ev.rfl' rfl) (Ev.rfl' rfl) cellsT replT nrmT (by rfl) (by rfl) (by rfl)) ?_
    refine JL_nil ?_
    refine JQ_then (JC_ret (JQ_then_ret ?_))
    exact JQ_ret (Bs := [IsPt Pt.nil]) Tryd.results7 ⟨⟨_, _, _, _, rfl, memT, rfl, .inr ⟨rfl, _, rfl, rfl, subT⟩⟩, trivial⟩ () (fun φ v f h => ⟨Pt.nil, h⟩) (List.nil_sublist _)
  refine JC_skip (JQ_then (JC_seq ?_))
  refine JC_dr rfl (by kernel_rfl) ?_
  refine JD_stretch 8 (by kernel_rfl) ?_
  refine JW_1 (by first | exact op_fieldPtr (k := 0) (Ev.rfl' rfl) rfl rfl rfl rfl | exact op_fieldRefN (k := 0) (Ev.rfl' rfl) rfl rfl rfl rfl nrmT) ?_
  refine JW_1 (by first | exact op_loadRef (Ev.rfl' rfl) rfl rfl rfl | exact op_loadPtr (Ev.rfl' rfl) memT (by rfl) (by rfl) (by rfl)) ?_
  refine JW_1 (by first | ((refine op_call Tryd.call6 (PickH_ok _ _ ?_ ?_) ⟨evS, ⟨evS, trivial⟩⟩); all_goals (first | omega))) ?_
  refine JW_1 (op_add (Ev.rfl' rfl) (Ev.rfl' rfl) wrapT) ?_
  refine JW_1 (by first | exact op_fieldPtr (k := 1) (Ev.rfl' rfl) rfl rfl rfl rfl | exact op_fieldRefN (k := 1) (Ev.rfl' rfl) rfl rfl rfl rfl nrmT) ?_
  refine JW_1 (by first | exact op_loadRef (Ev.rfl' rfl) rfl rfl rfl | exact op_loadPtr (Ev.rfl' rfl) memT (by rfl) (by rfl) (by rfl)) ?_
  refine JW_1 (by first | ((refine op_call Tryd.call6 (PickH_ok _ _ ?_ ?_) ⟨evS, ⟨evS, trivial⟩⟩); all_goals (first | omega))) ?_
  refine JW_1 (op_buildN (qs := [(0, _), (1, _)]) rfl rfl rfl rfl ⟨⟨rfl, _, (Ev.rfl' rfl), cellsT⟩, ⟨⟨rfl, _, (Ev.rfl' rfl), cellsT⟩, trivial⟩⟩ (by rfl) nrmT) ?_
  refine ⟨rfl, ?_⟩
  refine JD_s0 (by kernel_rfl) rfl (op_storeN (Ev.rfl' rfl) (Ev.rfl' rfl) cellsT replT nrmT (by rfl) (by rfl) (by rfl)) ?_
  refine JD_end ?_
  refine JQ_then (JC_ret ?_)
  exact JQ_ret (Bs := [IsPt ⟨103 + p.line % 154, p.gen % 8⟩]) Tryd.results7 ⟨⟨_, _, _, _, rfl, memT, rfl, .inr ⟨rfl, _, rfl, rfl, subT⟩⟩, trivial⟩ () (fun φ v f h => ⟨⟨103 + p.line % 154, p.gen % 8⟩, h⟩) (List.nil_sublist _)
-- hashindex.Hash: function 20
theorem Hash_ok (x : BitVec 32) : FnP Tryd.prog 20 [Is (.int .u32 (UV x))] (Is (.int .u32 (UV ((x * 2654435769#32) ^^^ (x * 2654435769#32) >>> 16)))) := by
  refine FnP.enter Tryd.func20 Tryd.ntmps20 rfl rfl ?_
  intro c hX
  refine JC_seq ?_
  refine JC_region ?_
  refine JL_1 rfl (op_assign rfl) ?_
  refine JL_nil ?_
  refine JQ_then (JC_seq ?_)
  refine JC_region ?_
  refine JL_1 rfl (op_move rfl) ?_
  refine JL_1 rfl (by first | exact op_binU ev32 ev32 (mul_u32 _ _ _) | exact op_mul (Ev.rfl' rfl) (Ev.rfl' rfl) wrapT) ?_
  refine JL_1 rfl (op_assign rfl) ?_
  refine JL_nil ?_
  refine JQ_then (JC_seq ?_)
  refine JC_region ?_
  refine JL_1 rfl (op_move rfl) ?_
  refine JL_1 rfl (op_move rfl) ?_
  refine JL_1 rfl (by first | exact op_shrU32 (k := 16) ev32 (Ev.rfl' rfl) (by first | omega | exact UV_nonneg _) idxT | exact op_shr (Ev.rfl' rfl) (Ev.rfl' rfl) (by first | omega | exact UV_nonneg _) rfl) ?_
  refine JL_1 rfl (by first | exact op_bits ev32 ev32 (by simp) (xor_u32 _ _) | exact op_bits (Ev.rfl' rfl) (Ev.rfl' rfl) (by simp) rfl) ?_
  refine JL_1 rfl (op_assign rfl) ?_
  refine JL_nil ?_
  refine JQ_then (JC_ret ?_)
  refine JQ_ret1 Tryd.results20 rfl () (SubL.eq ?_) (List.nil_sublist _)
  rfl
-- bodegalaw23.awake: function 13
theorem awakeH_ok : FnP Tryd.prog 13 [] (Is (.bool true)) := by
  refine FnP.enter Tryd.func13 Tryd.ntmps13 rfl rfl ?_
  intro c hX
  refine JC_seq ?_
  refine JC_region ?_
  refine JL_1 rfl (op_assign rfl) ?_
  refine JL_nil ?_
  refine JQ_then (JC_seq ?_)
  refine JC_region ?_
  refine JL_1 rfl (op_call Tryd.call20 (Hash_ok 1#32) ⟨evS, trivial⟩) ?_
  refine JL_1 rfl (op_eql (Ev.rfl' rfl) (Ev.rfl' rfl)) ?_
  refine JL_1 rfl (op_assign rfl) ?_
  refine JL_nil ?_
  refine JQ_then (JC_ret ?_)
  refine JQ_ret1 Tryd.results13 rfl () (SubL.eq ?_) (List.nil_sublist _)
  rfl
def rootK (r : Rt) (k : Nat) : Rt := ⟨r.first, r.depth, ptK k 0 r.p0, ptK k 1 r.p1, ptK k 2 r.p2, ptK k 3 r.p3⟩
-- bodegalaw23.root: function 12
set_option maxHeartbeats 4000000 in
theorem root_ok2 (r : Rt) : FnP Tryd.prog 12 [IsRt r] (IsRt r) := by
  refine FnP.enter Tryd.func12 Tryd.ntmps12 rfl rfl ?_
  intro c hX
  refine JC_seq ?_
  refine JC_region ?_
  (refine JL_n rfl (op_box (Ev.rfl' rfl) cellsT) ?_; intro i1)
  (refine JL_n rfl (op_allocN rfl nrmT rfl) ?_; intro i2)
  refine JL_nil ?_
  refine JQ_then (JC_seq ?_)
  refine JC_dr rfl (by kernel_rfl) ?_
  refine JD_stretch 8 (by kernel_rfl) ?_
  refine JW_1 (by first | exact op_fieldPtr (k := 0) (Ev.rfl' rfl) rfl rfl rfl rfl | exact op_fieldRefN (k := 0) (Ev.rfl' rfl) rfl rfl rfl rfl nrmT) ?_
  refine JW_1 (by first | exact op_loadRefsN (n := 2) (Ev.rfl' rfl) rfl rfl rfl (by rfl) nrmT | exact op_loadPtrsN (n := 2) (Ev.rfl' rfl) memT (by rfl) (by rfl) (by rfl) (by rfl) nrmT) ?_
  refine JW_1 (op_call Tryd.call33 (ref_ok _) ⟨evS, trivial⟩) ?_
  refine JW_1 (by first | exact op_fieldPtr (k := 2) (Ev.rfl' rfl) rfl rfl rfl rfl | exact op_fieldRefN (k := 2) (Ev.rfl' rfl) rfl rfl rfl rfl nrmT) ?_
  refine JW_1 (by first | exact op_loadRef (Ev.rfl' rfl) rfl rfl rfl | exact op_loadPtr (Ev.rfl' rfl) memT (by rfl) (by rfl) (by rfl)) ?_
  refine JW_1 (op_buildN (qs := [(0, _), (1, _)]) rfl rfl rfl rfl ⟨⟨rfl, _, (Ev.rfl' rfl), cellsT⟩, ⟨⟨rfl, _, (Ev.rfl' rfl), cellsT⟩, trivial⟩⟩ (by rfl) nrmT) ?_
  refine JW_n (op_allocN rfl nrmT rfl) ?_
  refine JW_write rfl rfl rfl (by kernel_rfl) (op_storeWN evS cellsT rfl rfl rfl nrmT) ?_
  refine ⟨rfl, ?_⟩
  intro i3
  refine JD_end ?_
  refine JQ_then (JC_seq (JC_seq ?_))
  refine JC_region ?_
  refine JL_1 rfl (op_assign rfl) ?_
  refine JL_nil ?_
  refine JQ_then (JC_block ?_)
  refine JC_loopP (fun k : Nat => k ≤ 4) (fun k => [(1, Is (.pointer (some ⟨i1, 0, none⟩))), (2, Is (.pointer (some ⟨i2, 0, none⟩))), (3, Is (.pointer (some ⟨i3, 0, none⟩))), (4, Is (.int .i64 (k : Nat)))]) (fun k => [blk i3 39 (tRt.cells (rootK r k)), blk i2 39 (tRt.cells Rt.nil), blk i1 30 (tRt.cells r)]) (fun k => 4 - k) 0 (Nat.zero_le _) esubT lessT ?_
  rintro k hk
  refine JC_seq (JC_seq ?_)
  refine JC_region ?_
  refine JL_1 rfl (op_move rfl) ?_
  refine JL_1 rfl (op_lss (Ev.rfl' rfl) (Ev.rfl' rfl)) ?_
  refine JL_nil ?_
  refine JQ_then ?_
  refine JC_cond (Ev.rfl' rfl) (fun h3 => ?_) (fun h3 => ?_)
  · have hk4 : k = 0 ∨ k = 1 ∨ k = 2 ∨ k = 3 := by have := of_decide_eq_true h3; omega
    clear h3
    rcases hk4 with rfl | rfl | rfl | rfl
    all_goals
      refine JC_skip (JQ_then (JC_seq (JC_block ?_)))
      refine JC_region ?_
      refine JL_1 rfl (op_move rfl) ?_
      refine JL_1 rfl (op_move rfl) ?_
      refine JL_1 rfl (by first | exact op_fieldPtr (k := 3) (Ev.rfl' rfl) rfl rfl rfl rfl | exact op_fieldRefN (k := 3) (Ev.rfl' rfl) rfl rfl rfl rfl nrmT) ?_
      refine JL_1 rfl (op_indexArr (k := _) (sz := 2) (Ev.rfl' rfl) (Ev.rfl' rfl) rfl rfl idxT (by first | decide | omega)) ?_
      refine JL_1 rfl (by first | exact op_loadRefsN (n := 2) (Ev.rfl' rfl) rfl rfl rfl (by rfl) nrmT | exact op_loadPtrsN (n := 2) (Ev.rfl' rfl) memT (by rfl) (by rfl) (by rfl) (by rfl) nrmT) ?_
      refine JL_1 rfl (op_call Tryd.call33 (ref_ok _) ⟨evS, trivial⟩) ?_
      refine JL_1 rfl (by first | exact op_fieldPtr (k := 3) (Ev.rfl' rfl) rfl rfl rfl rfl | exact op_fieldRefN (k := 3) (Ev.rfl' rfl) rfl rfl rfl rfl nrmT) ?_
      refine JL_1 rfl (op_indexArr (k := _) (sz := 2) (Ev.rfl' rfl) (Ev.rfl' rfl) rfl rfl idxT (by first | decide | omega)) ?_
      refine JL_s0 (op_storeN (Ev.rfl' rfl) (Ev.rfl' rfl) cellsT replT nrmT (by rfl) (by rfl) (by rfl)) ?_
      refine JL_nil ?_
      refine JQ_block (JQ_then ?_)
      refine JC_region ?_
      refine JL_1 rfl (op_move rfl) ?_
      refine JL_1 rfl (op_add (Ev.rfl' rfl) (Ev.rfl' rfl) wrapT) ?_
      refine JL_1 rfl (op_assign rfl) ?_
      refine JL_nil ?_
      first | exact JQ_roundP 1 (by omega) (by omega) esubT lessT | exact JQ_roundP 2 (by omega) (by omega) esubT lessT | exact JQ_roundP 3 (by omega) (by omega) esubT lessT | exact JQ_roundP 4 (by omega) (by omega) esubT lessT
  have hk4 : k = 4 := by have := of_decide_eq_false h3; omega
  subst hk4
  refine JC_exit (JQ_then_exit (JQ_then_exit (JQ_hit (JQ_then (JC_seq ?_)))))
  refine JC_region ?_
  refine JL_1 rfl (by first | exact op_loadRefsN (n := 11) (Ev.rfl' rfl) rfl rfl rfl (by rfl) nrmT | exact op_loadPtrsN (n := 11) (Ev.rfl' rfl) memT (by rfl) (by rfl) (by rfl) (by rfl) nrmT) ?_
  refine JL_s0 (op_storeN (Ev.rfl' rfl) (Ev.rfl' rfl) cellsT replT nrmT (by rfl) (by rfl) (by rfl)) ?_
  refine JL_nil ?_
  refine JQ_then (JC_ret ?_)
  exact JQ_ret (Bs := [IsRt r]) Tryd.results12 ⟨⟨_, _, _, _, rfl, memT, rfl, .inr ⟨rfl, _, rfl, rfl, subT⟩⟩, trivial⟩ () SubL.rfl' (List.nil_sublist _)
def dataV (p : Pg) : List Value := [.int .u64 (UV p.d0), .int .u64 (UV p.d1), .int .u64 (UV p.d2), .int .u64 (UV p.d3), .int .u64 (UV p.d4), .int .u64 (UV p.d5), .int .u64 (UV p.d6)]
theorem eqD_run (p : Pg) (w : World) : (Op.equal 23 (.agg (dataV p).toArray) (.agg (dataV p).toArray)).run Tryd.prog w = .ok true w :=
  (eq7 9998 w p.d0 p.d1 p.d2 p.d3 p.d4 p.d5 p.d6 p.d0 p.d1 p.d2 p.d3 p.d4 p.d5 p.d6).trans (by simp)
theorem eqD_guard (o : BinOp) (x y : Operand) (p q : Pg) (w : World) : (eqGuard o 23 x y (.agg (dataV p).toArray) (.agg (dataV q).toArray)).run Tryd.prog w = .ok () w := by
  have h : Tryd.prog.eqGuardType Tryd.prog.depth 23 = false := by kernel_rfl
  cases o <;> simp [eqGuard, program, Sem.run, h]
theorem eqD_eql (p : Pg) (w : World) : (binOp .eql 23 (.agg (dataV p).toArray) (.agg (dataV p).toArray)).run Tryd.prog w = .ok (.bool true) w := by
  simp only [binOp, Sem.run_bind, eqD_run, Result.andThen_ok, Sem.run_pure]
-- bodegalaw23.same: function 14
theorem same_refl (p : Pg) : FnP Tryd.prog 14 [IsPg p, IsPg p] (Is (.bool true)) := by
  refine FnP.enter Tryd.func14 Tryd.ntmps14 rfl rfl ?_
  intro c hX
  refine JC_seq ?_
  refine JC_region ?_
  (refine JL_n rfl (op_box (Ev.rfl' rfl) cellsT) ?_; intro i2)
  (refine JL_n rfl (op_box (Ev.rfl' rfl) cellsT) ?_; intro i3)
  refine JL_1 rfl (op_assign rfl) ?_
  refine JL_nil ?_
  refine JQ_then (JC_seq ?_)
  refine JC_region ?_
  refine JL_1 rfl (by first | exact op_fieldPtr (k := 0) (Ev.rfl' rfl) rfl rfl rfl rfl | exact op_fieldRefN (k := 0) (Ev.rfl' rfl) rfl rfl rfl rfl nrmT) ?_
  refine JL_1 rfl (by first | exact op_loadRef (Ev.rfl' rfl) rfl rfl rfl | exact op_loadPtr (Ev.rfl' rfl) memT (by rfl) (by rfl) (by rfl)) ?_
  refine JL_1 rfl (by first | exact op_fieldPtr (k := 0) (Ev.rfl' rfl) rfl rfl rfl rfl | exact op_fieldRefN (k := 0) (Ev.rfl' rfl) rfl rfl rfl rfl nrmT) ?_
  refine JL_1 rfl (by first | exact op_loadRef (Ev.rfl' rfl) rfl rfl rfl | exact op_loadPtr (Ev.rfl' rfl) memT (by rfl) (by rfl) (by rfl)) ?_
  refine JL_1 rfl (op_eql (Ev.rfl' rfl) (Ev.rfl' rfl)) ?_
  refine JL_1 rfl (op_move rfl) ?_
  (first | refine JL_i0 rfl rfl rfl (fun hg => (by have hg0 := hg; (try simp at hg); first | exact op_fieldPtr (k := 1) evG rfl rfl rfl rfl | exact op_fieldRefN (k := 1) evG rfl rfl rfl rfl nrmT)) ?_ | refine JL_i rfl rfl rfl (fun hp hg => (by have hpg := Bool.and_eq_true_iff.2 ⟨hp, hg⟩; have hg0 := hg; (try simp at hg); first | exact op_fieldPtr (k := 1) evG rfl rfl rfl rfl | exact op_fieldRefN (k := 1) evG rfl rfl rfl rfl nrmT)) ?_)
  (first | refine JL_i0 rfl rfl rfl (fun hg => (by have hg0 := hg; (try simp at hg); first | exact op_loadRef evG rfl rfl rfl | exact op_loadPtr evG memT (by rfl) (by rfl) (by rfl))) ?_ | refine JL_i rfl rfl rfl (fun hp hg => (by have hpg := Bool.and_eq_true_iff.2 ⟨hp, hg⟩; have hg0 := hg; (try simp at hg); first | exact op_loadRef evG rfl rfl rfl | exact op_loadPtr evG memT (by rfl) (by rfl) (by rfl))) ?_)
  (first | refine JL_i0 rfl rfl rfl (fun hg => (by have hg0 := hg; (try simp at hg); first | exact op_fieldPtr (k := 1) evG rfl rfl rfl rfl | exact op_fieldRefN (k := 1) evG rfl rfl rfl rfl nrmT)) ?_ | refine JL_i rfl rfl rfl (fun hp hg => (by have hpg := Bool.and_eq_true_iff.2 ⟨hp, hg⟩; have hg0 := hg; (try simp at hg); first | exact op_fieldPtr (k := 1) evG rfl rfl rfl rfl | exact op_fieldRefN (k := 1) evG rfl rfl rfl rfl nrmT)) ?_)
  (first | refine JL_i0 rfl rfl rfl (fun hg => (by have hg0 := hg; (try simp at hg); first | exact op_loadRef evG rfl rfl rfl | exact op_loadPtr evG memT (by rfl) (by rfl) (by rfl))) ?_ | refine JL_i rfl rfl rfl (fun hp hg => (by have hpg := Bool.and_eq_true_iff.2 ⟨hp, hg⟩; have hg0 := hg; (try simp at hg); first | exact op_loadRef evG rfl rfl rfl | exact op_loadPtr evG memT (by rfl) (by rfl) (by rfl))) ?_)
  (first | refine JL_i0 rfl rfl rfl (fun hg => (by have hg0 := hg; (try simp at hg); exact op_eql evG evG)) ?_ | refine JL_i rfl rfl rfl (fun hp hg => (by have hpg := Bool.and_eq_true_iff.2 ⟨hp, hg⟩; have hg0 := hg; (try simp at hg); exact op_eql evG evG)) ?_)
  refine JL_1 rfl (op_and (Ev.rfl' rfl) rfl (fun h => by first | exact SubL.rfl' | exact SubL.iteT (by first | (rw [h]; rfl) | (simp_all; done)) SubL.rfl')) ?_
  refine JL_1 rfl (op_move rfl) ?_
  (first | refine JL_i0 rfl rfl rfl (fun hg => (by have hg0 := hg; (try simp at hg); first | exact op_fieldPtr (k := 2) evG rfl rfl rfl rfl | exact op_fieldRefN (k := 2) evG rfl rfl rfl rfl nrmT)) ?_ | refine JL_i rfl rfl rfl (fun hp hg => (by have hpg := Bool.and_eq_true_iff.2 ⟨hp, hg⟩; have hg0 := hg; (try simp at hg); first | exact op_fieldPtr (k := 2) evG rfl rfl rfl rfl | exact op_fieldRefN (k := 2) evG rfl rfl rfl rfl nrmT)) ?_)
  (first | refine JL_i0 rfl rfl rfl (fun hg => (by have hg0 := hg; (try simp at hg); first | exact op_loadRefsN (n := 7) evG rfl rfl rfl (by rfl) nrmT | exact op_loadPtrsN (n := 7) evG memT (by rfl) (by rfl) (by rfl) (by rfl) nrmT)) ?_ | refine JL_i rfl rfl rfl (fun hp hg => (by have hpg := Bool.and_eq_true_iff.2 ⟨hp, hg⟩; have hg0 := hg; (try simp at hg); first | exact op_loadRefsN (n := 7) evG rfl rfl rfl (by rfl) nrmT | exact op_loadPtrsN (n := 7) evG memT (by rfl) (by rfl) (by rfl) (by rfl) nrmT)) ?_)
  (first | refine JL_i0 rfl rfl rfl (fun hg => (by have hg0 := hg; (try simp at hg); first | exact op_fieldPtr (k := 2) evG rfl rfl rfl rfl | exact op_fieldRefN (k := 2) evG rfl rfl rfl rfl nrmT)) ?_ | refine JL_i rfl rfl rfl (fun hp hg => (by have hpg := Bool.and_eq_true_iff.2 ⟨hp, hg⟩; have hg0 := hg; (try simp at hg); first | exact op_fieldPtr (k := 2) evG rfl rfl rfl rfl | exact op_fieldRefN (k := 2) evG rfl rfl rfl rfl nrmT)) ?_)
  (first | refine JL_i0 rfl rfl rfl (fun hg => (by have hg0 := hg; (try simp at hg); first | exact op_loadRefsN (n := 7) evG rfl rfl rfl (by rfl) nrmT | exact op_loadPtrsN (n := 7) evG memT (by rfl) (by rfl) (by rfl) (by rfl) nrmT)) ?_ | refine JL_i rfl rfl rfl (fun hp hg => (by have hpg := Bool.and_eq_true_iff.2 ⟨hp, hg⟩; have hg0 := hg; (try simp at hg); first | exact op_loadRefsN (n := 7) evG rfl rfl rfl (by rfl) nrmT | exact op_loadPtrsN (n := 7) evG memT (by rfl) (by rfl) (by rfl) (by rfl) nrmT)) ?_)
  (first | refine JL_i0 rfl rfl rfl (fun hg => (by have hg0 := hg; (try simp at hg); exact op_cmpA (vs := dataV p) (ws := dataV p) evG evG (eqD_guard _ _ _ p p) (eqD_eql p))) ?_ | refine JL_i rfl rfl rfl (fun hp hg => (by have hpg := Bool.and_eq_true_iff.2 ⟨hp, hg⟩; have hg0 := hg; (try simp at hg); exact op_cmpA (vs := dataV p) (ws := dataV p) evG evG (eqD_guard _ _ _ p p) (eqD_eql p))) ?_)
  refine JL_1 rfl (op_and (Ev.rfl' rfl) rfl (fun h => by first | exact SubL.rfl' | exact SubL.iteT (by first | (rw [h]; rfl) | (simp_all; done)) SubL.rfl')) ?_
  refine JL_1 rfl (op_assign rfl) ?_
  refine JL_nil ?_
  refine JQ_then (JC_ret ?_)
  refine JQ_ret1 Tryd.results14 rfl () (SubL.eq ?_) (List.nil_sublist _)
  simp
end Go.Proofs.YtmcaomdjlepapaaDoor

/- Contracts: tags. Own work. -/
namespace Go.Proofs.YtmcaomdjlepapaaDoor
open Go.RowKit
set_option linter.unusedVariables false
set_option linter.unusedSimpArgs false
set_option maxRecDepth 100000
structure Tg where
  kind : Int
  gen : Int
  aux : BitVec 32
def tTg : Ty Tg := ⟨3, fun t => [Is (.int .i64 t.kind), Is (.int .i64 t.gen), Is (.int .u32 (UV t.aux))], fun _ => rfl⟩
@[reducible] def IsTg (t : Tg) : VP := IsAgg (tTg.cells t)
def kindV (x : BitVec 64) : Int := UV (x &&& BitVec.ofInt 64 255)
def genV (x : BitVec 64) : Int := UV (x >>> 8 &&& BitVec.ofInt 64 16777215)
def auxV (x : BitVec 64) : BitVec 32 := (x >>> 32).setWidth 32
theorem kind_eq (x : BitVec 64) : kindV x = UV x % 256 := by
  unfold kindV; rw [UV_low 64 8 x _ rfl]; rfl
theorem gen_eq (x : BitVec 64) : genV x = UV x / 256 % 16777216 := by
  unfold genV; rw [UV_low 64 24 _ _ rfl, UV_shr]; rfl
theorem kind_in (x : BitVec 64) : -9223372036854775808 ≤ UV (x &&& BitVec.ofInt 64 255) ∧ UV (x &&& BitVec.ofInt 64 255) ≤ 9223372036854775807 := by
  have := kind_eq x
  unfold kindV at this
  omega
theorem gen_in (x : BitVec 64) : -9223372036854775808 ≤ UV (x >>> 8 &&& BitVec.ofInt 64 16777215) ∧ UV (x >>> 8 &&& BitVec.ofInt 64 16777215) ≤ 9223372036854775807 := by
  have := gen_eq x
  unfold genV at this
  omega
def unpackT (x : BitVec 64) : Tg := ⟨kindV x, genV x, auxV x⟩
-- pointer.UnpackTag: function 44
theorem UnpackTag_ok (x : BitVec 64) : FnP Tryd.prog 44 [Is (.int .u64 (UV x))] (IsTg (unpackT x)) := by
  have h1 := kind_in x
  have h2 := gen_in x
  refine FnP.enter Tryd.func44 Tryd.ntmps44 rfl rfl ?_
  intro c hX
  refine JC_seq ?_
  refine JC_region ?_
  (refine JL_n rfl (op_allocN rfl nrmT rfl) ?_; intro i2)
  refine JL_nil ?_
  refine JQ_then (JC_seq ?_)
  refine JC_region ?_
  refine JL_1 rfl (op_move rfl) ?_
  refine JL_1 rfl (by first | exact op_bits ev64 ev64 (by simp) (and_u64 _ _) | exact op_bits (Ev.rfl' rfl) (Ev.rfl' rfl) (by simp) rfl) ?_
  refine JL_1 rfl (op_conv (Ev.rfl' rfl) rfl rfl convT) ?_
  refine JL_1 rfl (op_move rfl) ?_
  refine JL_1 rfl (by first | exact op_shrU (k := 8) ev64 (Ev.rfl' rfl) (by first | omega | exact UV_nonneg _) idxT | exact op_shr (Ev.rfl' rfl) (Ev.rfl' rfl) (by first | omega | exact UV_nonneg _) rfl) ?_
  refine JL_1 rfl (by first | exact op_bits ev64 ev64 (by simp) (and_u64 _ _) | exact op_bits (Ev.rfl' rfl) (Ev.rfl' rfl) (by simp) rfl) ?_
  refine JL_1 rfl (op_conv (Ev.rfl' rfl) rfl rfl convT) ?_
  refine JL_1 rfl (op_move rfl) ?_
  refine JL_1 rfl (by first | exact op_shrU (k := 32) ev64 (Ev.rfl' rfl) (by first | omega | exact UV_nonneg _) idxT | exact op_shr (Ev.rfl' rfl) (Ev.rfl' rfl) (by first | omega | exact UV_nonneg _) rfl) ?_
  refine JL_1 rfl (op_conv (Ev.rfl' rfl) rfl rfl convT) ?_
  refine JL_1 rfl (op_buildN (qs := [(0, _), (1, _), (2, _)]) rfl rfl rfl rfl ⟨⟨rfl, _, (Ev.rfl' rfl), cellsT⟩, ⟨⟨rfl, _, (Ev.rfl' rfl), cellsT⟩, ⟨⟨rfl, _, (Ev.rfl' rfl), cellsT⟩, trivial⟩⟩⟩ (by rfl) nrmT) ?_
  refine JL_s0 (op_storeN (Ev.rfl' rfl) (Ev.rfl' rfl) cellsT replT nrmT (by rfl) (by rfl) (by rfl)) ?_
  refine JL_nil ?_
  refine JQ_then (JC_ret ?_)
  exact JQ_ret (Bs := [IsTg (unpackT x)]) Tryd.results44 ⟨⟨_, _, _, _, rfl, memT, rfl, .inr ⟨rfl, _, rfl, rfl, subT⟩⟩, trivial⟩ () SubL.rfl' (List.nil_sublist _)
def packT (t : Tg) : BitVec 64 := (BitVec.ofInt 64 t.kind &&& BitVec.ofInt 64 255) ||| ((BitVec.ofInt 64 t.gen &&& BitVec.ofInt 64 16777215) <<< 8) ||| (t.aux.setWidth 64 <<< 32)
-- pointer.PackTag: function 54
theorem PackTag_ok (t : Tg) : FnP Tryd.prog 54 [IsTg t] (Is (.int .u64 (UV (packT t)))) := by
  refine FnP.enter Tryd.func54 Tryd.ntmps54 rfl rfl ?_
  intro c hX
  refine JC_seq ?_
  refine JC_region ?_
  (refine JL_n rfl (op_box (Ev.rfl' rfl) cellsT) ?_; intro i1)
  refine JL_1 rfl (op_assign rfl) ?_
  refine JL_nil ?_
  refine JQ_then (JC_seq ?_)
  refine JC_region ?_
  refine JL_1 rfl (by first | exact op_fieldPtr (k := 0) (Ev.rfl' rfl) rfl rfl rfl rfl | exact op_fieldRefN (k := 0) (Ev.rfl' rfl) rfl rfl rfl rfl nrmT) ?_
  refine JL_1 rfl (by first | exact op_loadRef (Ev.rfl' rfl) rfl rfl rfl | exact op_loadPtr (Ev.rfl' rfl) memT (by rfl) (by rfl) (by rfl)) ?_
  refine JL_1 rfl (op_conv (Ev.rfl' rfl) rfl rfl convT) ?_
  refine JL_1 rfl (by first | exact op_bits ev64 ev64 (by simp) (and_u64 _ _) | exact op_bits (Ev.rfl' rfl) (Ev.rfl' rfl) (by simp) rfl) ?_
  refine JL_1 rfl (op_assign rfl) ?_
  refine JL_nil ?_
  refine JQ_then (JC_seq ?_)
  refine JC_region ?_
  refine JL_1 rfl (by first | exact op_fieldPtr (k := 1) (Ev.rfl' rfl) rfl rfl rfl rfl | exact op_fieldRefN (k := 1) (Ev.rfl' rfl) rfl rfl rfl rfl nrmT) ?_
  refine JL_1 rfl (by first | exact op_loadRef (Ev.rfl' rfl) rfl rfl rfl | exact op_loadPtr (Ev.rfl' rfl) memT (by rfl) (by rfl) (by rfl)) ?_
  refine JL_1 rfl (op_conv (Ev.rfl' rfl) rfl rfl convT) ?_
  refine JL_1 rfl (by first | exact op_bits ev64 ev64 (by simp) (and_u64 _ _) | exact op_bits (Ev.rfl' rfl) (Ev.rfl' rfl) (by simp) rfl) ?_
  refine JL_1 rfl (op_assign rfl) ?_
  refine JL_nil ?_
  refine JQ_then (JC_seq ?_)
  refine JC_region ?_
  refine JL_1 rfl (op_move rfl) ?_
  refine JL_1 rfl (op_move rfl) ?_
  refine JL_1 rfl (by first | exact op_shlU (k := 8) ev64 (Ev.rfl' rfl) (by first | omega | exact UV_nonneg _) idxT | exact op_shl (Ev.rfl' rfl) (Ev.rfl' rfl) (by first | omega | exact UV_nonneg _) rfl) ?_
  refine JL_1 rfl (by first | exact op_bits ev64 ev64 (by simp) (or_u64 _ _) | exact op_bits (Ev.rfl' rfl) (Ev.rfl' rfl) (by simp) rfl) ?_
  refine JL_1 rfl (by first | exact op_fieldPtr (k := 2) (Ev.rfl' rfl) rfl rfl rfl rfl | exact op_fieldRefN (k := 2) (Ev.rfl' rfl) rfl rfl rfl rfl nrmT) ?_
  refine JL_1 rfl (by first | exact op_loadRef (Ev.rfl' rfl) rfl rfl rfl | exact op_loadPtr (Ev.rfl' rfl) memT (by rfl) (by rfl) (by rfl)) ?_
  refine JL_1 rfl (op_conv (Ev.rfl' rfl) rfl rfl convT) ?_
  refine JL_1 rfl (by first | exact op_shlU (k := 32) ev64 (Ev.rfl' rfl) (by first | omega | exact UV_nonneg _) idxT | exact op_shl (Ev.rfl' rfl) (Ev.rfl' rfl) (by first | omega | exact UV_nonneg _) rfl) ?_
  refine JL_1 rfl (by first | exact op_bits ev64 ev64 (by simp) (or_u64 _ _) | exact op_bits (Ev.rfl' rfl) (Ev.rfl' rfl) (by simp) rfl) ?_
  refine JL_1 rfl (op_assign rfl) ?_
  refine JL_nil ?_
  refine JQ_then (JC_ret ?_)
  refine JQ_ret1 Tryd.results54 rfl () (SubL.eq ?_) (List.nil_sublist _)
  rfl
-- hashindex.isKind: function 34
theorem isKind_ok (p : Pg) (k : Int) : FnP Tryd.prog 34 [IsPg p, Is (.int .i64 k)] (Is (.bool (kindV p.d0 == k))) := by
  refine FnP.enter Tryd.func34 Tryd.ntmps34 rfl rfl ?_
  intro c hX
  refine JC_seq ?_
  refine JC_region ?_
  (refine JL_n rfl (op_box (Ev.rfl' rfl) cellsT) ?_; intro i2)
  refine JL_1 rfl (op_assign rfl) ?_
  refine JL_nil ?_
  refine JQ_then (JC_seq ?_)
  refine JC_region ?_
  refine JL_1 rfl (by first | exact op_fieldPtr (k := 2) (Ev.rfl' rfl) rfl rfl rfl rfl | exact op_fieldRefN (k := 2) (Ev.rfl' rfl) rfl rfl rfl rfl nrmT) ?_
  refine JL_1 rfl (op_indexArr (k := 0) (sz := 1) (Ev.rfl' rfl) (Ev.rfl' rfl) rfl rfl idxT (by first | decide | omega)) ?_
  refine JL_1 rfl (by first | exact op_loadRef (Ev.rfl' rfl) rfl rfl rfl | exact op_loadPtr (Ev.rfl' rfl) memT (by rfl) (by rfl) (by rfl)) ?_
  refine JL_1 rfl (op_call Tryd.call44 (UnpackTag_ok _) ⟨evS, trivial⟩) ?_
  refine JL_1 rfl (op_fieldV1 (Ev.rfl' rfl) rfl rfl rfl rfl rfl) ?_
  refine JL_1 rfl (op_move rfl) ?_
  refine JL_1 rfl (op_eql (Ev.rfl' rfl) (Ev.rfl' rfl)) ?_
  refine JL_1 rfl (op_assign rfl) ?_
  refine JL_nil ?_
  refine JQ_then (JC_ret ?_)
  refine JQ_ret1 Tryd.results34 rfl () (SubL.eq ?_) (List.nil_sublist _)
  rfl
-- bodegaref19.Kind: function 36
theorem KindR_ok (p : Pg) : FnP Tryd.prog 36 [IsPg p] (Is (.int .i64 (kindV p.d0))) := by
  have e : IntKind.i64.wrap ((UV p.d0).tmod 256) = kindV p.d0 := by
    rw [kind_eq, Int.tmod_eq_emod_of_nonneg (UV_nonneg _), wI64 (by omega)]
  refine FnP.enter Tryd.func36 Tryd.ntmps36 rfl rfl ?_
  intro c hX
  refine JC_seq ?_
  refine JC_region ?_
  (refine JL_n rfl (op_box (Ev.rfl' rfl) cellsT) ?_; intro i1)
  refine JL_1 rfl (op_assign rfl) ?_
  refine JL_nil ?_
  refine JQ_then (JC_seq ?_)
  refine JC_region ?_
  refine JL_1 rfl (by first | exact op_fieldPtr (k := 2) (Ev.rfl' rfl) rfl rfl rfl rfl | exact op_fieldRefN (k := 2) (Ev.rfl' rfl) rfl rfl rfl rfl nrmT) ?_
  refine JL_1 rfl (op_indexArr (k := 0) (sz := 1) (Ev.rfl' rfl) (Ev.rfl' rfl) rfl rfl idxT (by first | decide | omega)) ?_
  refine JL_1 rfl (by first | exact op_loadRef (Ev.rfl' rfl) rfl rfl rfl | exact op_loadPtr (Ev.rfl' rfl) memT (by rfl) (by rfl) (by rfl)) ?_
  refine JL_1 rfl (op_rem (Ev.rfl' rfl) (Ev.rfl' rfl) (by omega) rfl) ?_
  refine JL_1 rfl (op_conv (Ev.rfl' rfl) rfl rfl convT) ?_
  refine JL_1 rfl (op_assign rfl) ?_
  refine JL_nil ?_
  refine JQ_then (JC_ret ?_)
  refine JQ_ret1 Tryd.results36 rfl () (SubL.eq ?_) (List.nil_sublist _)
  rw [← e]
-- bodegaref19.Aux: function 37
theorem AuxR_ok (p : Pg) : FnP Tryd.prog 37 [IsPg p] (Is (.int .u32 (UV (auxV p.d0)))) := by
  refine FnP.enter Tryd.func37 Tryd.ntmps37 rfl rfl ?_
  intro c hX
  refine JC_seq ?_
  refine JC_region ?_
  (refine JL_n rfl (op_box (Ev.rfl' rfl) cellsT) ?_; intro i1)
  refine JL_1 rfl (op_assign rfl) ?_
  refine JL_nil ?_
  refine JQ_then (JC_seq ?_)
  refine JC_region ?_
  refine JL_1 rfl (by first | exact op_fieldPtr (k := 2) (Ev.rfl' rfl) rfl rfl rfl rfl | exact op_fieldRefN (k := 2) (Ev.rfl' rfl) rfl rfl rfl rfl nrmT) ?_
  refine JL_1 rfl (op_indexArr (k := 0) (sz := 1) (Ev.rfl' rfl) (Ev.rfl' rfl) rfl rfl idxT (by first | decide | omega)) ?_
  refine JL_1 rfl (by first | exact op_loadRef (Ev.rfl' rfl) rfl rfl rfl | exact op_loadPtr (Ev.rfl' rfl) memT (by rfl) (by rfl) (by rfl)) ?_
  refine JL_1 rfl (by first | exact op_shrU (k := 32) ev64 (Ev.rfl' rfl) (by first | omega | exact UV_nonneg _) idxT | exact op_shr (Ev.rfl' rfl) (Ev.rfl' rfl) (by first | omega | exact UV_nonneg _) rfl) ?_
  refine JL_1 rfl (op_conv (Ev.rfl' rfl) rfl rfl convT) ?_
  refine JL_1 rfl (op_assign rfl) ?_
  refine JL_nil ?_
  refine JQ_then (JC_ret ?_)
  refine JQ_ret1 Tryd.results37 rfl () (SubL.eq ?_) (List.nil_sublist _)
  rfl
end Go.Proofs.YtmcaomdjlepapaaDoor

/- Rule: an array is built. Own work. -/
namespace Go.Proofs.YtmcaomdjlepapaaDoor
open Go.RowKit
set_option linter.unusedVariables false
set_option linter.unusedSimpArgs false
section
variable {P : Program} {c : Ctx} {A : Nat → Option VP} {L : List Item} {d : Option Tmp} {ty : TypeId} {pos : String} {af : Array Edge} {g : Option (Nat × Bool)}
theorem op_buildArr {t e : TypeId} {len size : Nat} {ps : Array (Nat × Operand)} {zs : List Value} {qs : List (Nat × List VP)} {Rs Rs' : List VP} (hu : P.underlying t = some (.array len e)) (hs : (P.info? e).map (·.size) = some size) (hz : (P.info? t).map (·.zero) = some (some (.agg zs.toArray))) (h1 : (zs.all Value.oneCell') = true)
    (hq : PartsE A L ps.toList qs) (hf : fillL (fun i => some (i * size, size)) (zs.map Is) qs = some Rs) (hR : Rs = Rs') : OpP P c ⟨d, .build t ps, ty, pos, af, g⟩ A L (IsAgg Rs') := by
  subst hR
  exact opp fun φ a w hm he => by
    have hp := hq.at_ (φ := φ) (a := a) fun i x hx => he x (by simp only [Op.operands]; simp; exact ⟨i, by simpa using hx⟩)
    obtain ⟨rs, g1, g2⟩ := fill_ok (alls_is (φ := φ) zs) (ones_all h1) hp hf
    refine ⟨.agg rs.toArray, ?_, ⟨rs, rfl, g2⟩⟩
    simp only [execOp]
    refine run_val ?_
    have h3 : (ps.map fun x => (x.1, a.eval x.2)).toList = ps.toList.map fun p => (p.1, a.eval p.2) := by simp
    simp only [Instr.build, Sem.run_bind, run_zero hz, Result.andThen_ok, run_underlying hu, run_sizeOf hs]
    rw [h3]
    show (match Instr.fill (fun i => some (i * size, size)) zs.toArray (ps.toList.map fun p => (p.1, a.eval p.2)) with | some cells => pure (.agg cells) | _ => stuck _ : Sem Value).run P w = _
    rw [g1]; rfl
end
end Go.Proofs.YtmcaomdjlepapaaDoor

/- Contracts: directory pages are filled. Own work. -/
namespace Go.Proofs.YtmcaomdjlepapaaDoor
open Go.RowKit
set_option linter.unusedVariables false
set_option linter.unusedSimpArgs false
set_option maxRecDepth 100000
def wd8 (k i : Nat) (a b : BitVec 32) : BitVec 64 := if i + 1 < k then (BitVec.ofInt 64 0 ||| a.setWidth 64 <<< 0) ||| b.setWidth 64 <<< 32 else if i < k then BitVec.ofInt 64 0 ||| a.setWidth 64 <<< 0 else BitVec.ofInt 64 0
def fillK (p : Pg) (s : S8) (k : Nat) : Pg := ⟨p.l, p.h, packT ⟨kindV p.d0, genV p.d0, 0#32⟩, wd8 k 0 (packP s.s0) (packP s.s1), wd8 k 2 (packP s.s2) (packP s.s3), wd8 k 4 (packP s.s4) (packP s.s5), wd8 k 6 (packP s.s6) (packP s.s7), 0#64, 0#64⟩
-- hashindex.fillSlots: function 35
set_option maxHeartbeats 8000000 in
theorem fillSlots_ok (p : Pg) (s : S8) : FnP Tryd.prog 35 [IsPg p, IsS8 s] (IsPg (fillK p s 8)) := by
  refine FnP.enter Tryd.func35 Tryd.ntmps35 rfl rfl ?_
  intro c hX
  refine JC_seq ?_
  refine JC_region ?_
  (refine JL_n rfl (op_box (Ev.rfl' rfl) cellsT) ?_; intro i2)
  (refine JL_n rfl (op_box (Ev.rfl' rfl) cellsT) ?_; intro i3)
  (refine JL_n rfl (op_allocN rfl nrmT rfl) ?_; intro i4)
  refine JL_nil ?_
  refine JQ_then (JC_seq ?_)
  refine JC_region ?_
  refine JL_1 rfl (by first | exact op_fieldPtr (k := 2) (Ev.rfl' rfl) rfl rfl rfl rfl | exact op_fieldRefN (k := 2) (Ev.rfl' rfl) rfl rfl rfl rfl nrmT) ?_
  refine JL_1 rfl (op_indexArr (k := 0) (sz := 1) (Ev.rfl' rfl) (Ev.rfl' rfl) rfl rfl idxT (by first | decide | omega)) ?_
  refine JL_1 rfl (by first | exact op_loadRef (Ev.rfl' rfl) rfl rfl rfl | exact op_loadPtr (Ev.rfl' rfl) memT (by rfl) (by rfl) (by rfl)) ?_
  refine JL_1 rfl (op_call Tryd.call44 (UnpackTag_ok _) ⟨evS, trivial⟩) ?_
  (refine JL_n rfl (op_allocN rfl nrmT rfl) ?_; intro i5)
  refine JL_s0 (op_storeN (Ev.rfl' rfl) (Ev.rfl' rfl) cellsT replT nrmT (by rfl) (by rfl) (by rfl)) ?_
  refine JL_nil ?_
  refine JQ_then (JC_seq ?_)
  refine JC_region ?_
  refine JL_1 rfl (by first | exact op_fieldPtr (k := 2) (Ev.rfl' rfl) rfl rfl rfl rfl | exact op_fieldRefN (k := 2) (Ev.rfl' rfl) rfl rfl rfl rfl nrmT) ?_
  refine JL_s0 (op_storeN (Ev.rfl' rfl) (Ev.rfl' rfl) cellsT replT nrmT (by rfl) (by rfl) (by rfl)) ?_
  refine JL_nil ?_
  refine JQ_then (JC_seq ?_)
  refine JC_region ?_
  refine JL_1 rfl (by first | exact op_loadRefsN (n := 3) (Ev.rfl' rfl) rfl rfl rfl (by rfl) nrmT | exact op_loadPtrsN (n := 3) (Ev.rfl' rfl) memT (by rfl) (by rfl) (by rfl) (by rfl) nrmT) ?_
  refine JL_1 rfl (op_call Tryd.call54 (PackTag_ok ⟨kindV p.d0, genV p.d0, 0#32⟩) ⟨evS, trivial⟩) ?_
  refine JL_1 rfl (op_buildArr (size := 1) (qs := [(0, _)]) rfl rfl rfl rfl ⟨⟨rfl, _, (Ev.rfl' rfl), cellsT⟩, trivial⟩ (by rfl) nrmT) ?_
  refine JL_1 rfl (by first | exact op_fieldPtr (k := 2) (Ev.rfl' rfl) rfl rfl rfl rfl | exact op_fieldRefN (k := 2) (Ev.rfl' rfl) rfl rfl rfl rfl nrmT) ?_
  refine JL_s0 (op_storeN (Ev.rfl' rfl) (Ev.rfl' rfl) cellsT replT nrmT (by rfl) (by rfl) (by rfl)) ?_
  refine JL_nil ?_
  refine JQ_then (JC_seq (JC_seq ?_))
  refine JC_region ?_
  refine JL_1 rfl (by first | exact op_loadRefsN (n := 16) (Ev.rfl' rfl) rfl rfl rfl (by rfl) nrmT | exact op_loadPtrsN (n := 16) (Ev.rfl' rfl) memT (by rfl) (by rfl) (by rfl) (by rfl) nrmT) ?_
  refine JL_1 rfl (op_move rfl) ?_
  refine JL_nil ?_
  refine JQ_then (JC_block ?_)
  refine JC_loopP (fun k : Nat => k ≤ 8) (fun k => [(2, Is (.pointer (some ⟨i2, 0, none⟩))), (4, Is (.pointer (some ⟨i4, 0, none⟩))), (17, IsAgg [Is (.int .i64 s.s0.line), Is (.int .i64 s.s0.gen), Is (.int .i64 s.s1.line), Is (.int .i64 s.s1.gen), Is (.int .i64 s.s2.line), Is (.int .i64 s.s2.gen), Is (.int .i64 s.s3.line), Is (.int .i64 s.s3.gen), Is (.int .i64 s.s4.line), Is (.int .i64 s.s4.gen), Is (.int .i64 s.s5.line), Is (.int .i64 s.s5.gen), Is (.int .i64 s.s6.line), Is (.int .i64 s.s6.gen), Is (.int .i64 s.s7.line), Is (.int .i64 s.s7.gen)]), (18, Is (.int .i64 (k : Nat)))]) (fun k => [blk i2 25 (tPg.cells (fillK p s k)), blk i4 25 (tPg.cells Pg.nil)]) (fun k => 8 - k) 0 (Nat.zero_le _) esubT lessT ?_
  rintro k hk
  refine JC_seq ?_
  refine JC_region ?_
  refine JL_1 rfl (op_lss (Ev.rfl' rfl) (Ev.rfl' rfl)) ?_
  refine JL_nil ?_
  refine JQ_then (JC_seq ?_)
  refine JC_cond (Ev.rfl' rfl) (fun h5 => ?_) (fun h5 => ?_)
  · have hk4 : k = 0 ∨ k = 1 ∨ k = 2 ∨ k = 3 ∨ k = 4 ∨ k = 5 ∨ k = 6 ∨ k = 7 := by have := of_decide_eq_true h5; omega
    clear h5
    rcases hk4 with rfl | rfl | rfl | rfl | rfl | rfl | rfl | rfl
    all_goals
      refine JC_skip (JQ_then (JC_seq (JC_block (JC_seq ?_))))
      refine JC_region ?_
      refine JL_1 rfl (op_move rfl) ?_
      refine JL_1 rfl (op_indexV (k := _) (sz := 2) (Ev.rfl' rfl) (Ev.rfl' rfl) rfl rfl rfl rfl idxT (by first | decide | omega) nrmT) ?_
      (refine JL_n rfl (op_allocN rfl nrmT rfl) ?_; intro i7)
      refine JL_1 rfl (op_assign rfl) ?_
      refine JL_s0 (op_storeN (Ev.rfl' rfl) (Ev.rfl' rfl) cellsT replT nrmT (by rfl) (by rfl) (by rfl)) ?_
      refine JL_nil ?_
      refine JQ_then ?_
      refine JC_dr rfl (by kernel_rfl) ?_
      refine JD_stretch 17 (by kernel_rfl) ?_
      refine JW_1 (op_move rfl) ?_
      refine JW_1 (op_quo (Ev.rfl' rfl) (Ev.rfl' rfl) (by omega) wrapT) ?_
      refine JW_1 (op_add (Ev.rfl' rfl) (Ev.rfl' rfl) wrapT) ?_
      refine JW_1 (by first | exact op_fieldPtr (k := 2) (Ev.rfl' rfl) rfl rfl rfl rfl | exact op_fieldRefN (k := 2) (Ev.rfl' rfl) rfl rfl rfl rfl nrmT) ?_
      refine JW_1 (by first | exact op_indexArr (k := 1) (sz := 1) (Ev.rfl' rfl) (Ev.rfl' rfl) rfl rfl (by decide) (by decide) | exact op_indexArr (k := 2) (sz := 1) (Ev.rfl' rfl) (Ev.rfl' rfl) rfl rfl (by decide) (by decide) | exact op_indexArr (k := 3) (sz := 1) (Ev.rfl' rfl) (Ev.rfl' rfl) rfl rfl (by decide) (by decide) | exact op_indexArr (k := 4) (sz := 1) (Ev.rfl' rfl) (Ev.rfl' rfl) rfl rfl (by decide) (by decide)) ?_
      refine JW_1 (by first | exact op_loadRef (Ev.rfl' rfl) rfl rfl rfl | exact op_loadPtr (Ev.rfl' rfl) memT (by rfl) (by rfl) (by rfl)) ?_
      refine JW_1 (by first | exact op_loadRefsN (n := 2) (Ev.rfl' rfl) rfl rfl rfl (by rfl) nrmT | exact op_loadPtrsN (n := 2) (Ev.rfl' rfl) memT (by rfl) (by rfl) (by rfl) (by rfl) nrmT) ?_
      refine JW_1 (op_call Tryd.call31 (Pack_ok _) ⟨evS, trivial⟩) ?_
      refine JW_1 (op_conv (Ev.rfl' rfl) rfl rfl convT) ?_
      refine JW_1 (op_move rfl) ?_
      refine JW_1 (op_rem (Ev.rfl' rfl) (Ev.rfl' rfl) (by omega) rfl) ?_
      refine JW_1 (op_mul (Ev.rfl' rfl) (Ev.rfl' rfl) wrapT) ?_
      refine JW_1 (op_conv (Ev.rfl' rfl) rfl rfl convT) ?_
      refine JW_1 (by first | exact op_shlU (k := 0) ev64 (Ev.rfl' rfl) (by decide) (by decide) | exact op_shlU (k := 32) ev64 (Ev.rfl' rfl) (by decide) (by decide)) ?_
      refine JW_1 (by first | exact op_bits ev64 ev64 (by simp) (or_u64 _ _) | exact op_bits (Ev.rfl' rfl) (Ev.rfl' rfl) (by simp) rfl) ?_
      refine JW_1 (by first | exact op_fieldPtr (k := 2) (Ev.rfl' rfl) rfl rfl rfl rfl | exact op_fieldRefN (k := 2) (Ev.rfl' rfl) rfl rfl rfl rfl nrmT) ?_
      refine JW_1 (by first | exact op_indexArr (k := 1) (sz := 1) (Ev.rfl' rfl) (Ev.rfl' rfl) rfl rfl (by decide) (by decide) | exact op_indexArr (k := 2) (sz := 1) (Ev.rfl' rfl) (Ev.rfl' rfl) rfl rfl (by decide) (by decide) | exact op_indexArr (k := 3) (sz := 1) (Ev.rfl' rfl) (Ev.rfl' rfl) rfl rfl (by decide) (by decide) | exact op_indexArr (k := 4) (sz := 1) (Ev.rfl' rfl) (Ev.rfl' rfl) rfl rfl (by decide) (by decide)) ?_
      refine ⟨rfl, ?_⟩
      refine JD_s0 (by kernel_rfl) rfl (op_storeN (Ev.rfl' rfl) (Ev.rfl' rfl) cellsT replT nrmT (by rfl) (by rfl) (by rfl)) ?_
      refine JD_end ?_
      refine JQ_block (JQ_then ?_)
      refine JC_region ?_
      refine JL_1 rfl (op_add (Ev.rfl' rfl) (Ev.rfl' rfl) wrapT) ?_
      refine JL_1 rfl (op_move rfl) ?_
      refine JL_nil ?_
      first | exact JQ_roundP 1 (by omega) (by omega) esubT lessT | exact JQ_roundP 2 (by omega) (by omega) esubT lessT | exact JQ_roundP 3 (by omega) (by omega) esubT lessT | exact JQ_roundP 4 (by omega) (by omega) esubT lessT | exact JQ_roundP 5 (by omega) (by omega) esubT lessT | exact JQ_roundP 6 (by omega) (by omega) esubT lessT | exact JQ_roundP 7 (by omega) (by omega) esubT lessT | exact JQ_roundP 8 (by omega) (by omega) esubT lessT
  have hk4 : k = 8 := by have := of_decide_eq_false h5; omega
  subst hk4
  refine JC_exit (JQ_then_exit (JQ_then_exit (JQ_hit (JQ_then (JC_seq ?_)))))
  refine JC_region ?_
  refine JL_1 rfl (by first | exact op_loadRefsN (n := 9) (Ev.rfl' rfl) rfl rfl rfl (by rfl) nrmT | exact op_loadPtrsN (n := 9) (Ev.rfl' rfl) memT (by rfl) (by rfl) (by rfl) (by rfl) nrmT) ?_
  refine JL_s0 (op_storeN (Ev.rfl' rfl) (Ev.rfl' rfl) cellsT replT nrmT (by rfl) (by rfl) (by rfl)) ?_
  refine JL_nil ?_
  refine JQ_then (JC_ret ?_)
  exact JQ_ret (Bs := [IsPg (fillK p s 8)]) Tryd.results35 ⟨⟨_, _, _, _, rfl, memT, rfl, .inr ⟨rfl, _, rfl, rfl, subT⟩⟩, trivial⟩ () SubL.rfl' (List.nil_sublist _)
end Go.Proofs.YtmcaomdjlepapaaDoor

/- Contracts: the reference's tags. Own work. -/
namespace Go.Proofs.YtmcaomdjlepapaaDoor
open Go.RowKit
set_option linter.unusedVariables false
set_option linter.unusedSimpArgs false
set_option maxRecDepth 100000
theorem rem8 (x : BitVec 64) : (UV x).tmod 256 = UV (x &&& BitVec.ofInt 64 255) := by
  rw [Int.tmod_eq_emod_of_nonneg (UV_nonneg x)]
  exact (UV_low 64 8 x _ rfl).symm
theorem rem24 (x : BitVec 64) : (UV x).tmod 16777216 = UV (x &&& BitVec.ofInt 64 16777215) := by
  rw [Int.tmod_eq_emod_of_nonneg (UV_nonneg x)]
  exact (UV_low 64 24 x _ rfl).symm
-- bodegaref19.Gen: function 42
theorem GenR_ok (p : Pg) : FnP Tryd.prog 42 [IsPg p] (Is (.int .i64 (genV p.d0))) := by
  have e : IntKind.i64.wrap ((IntKind.u64.wrap ((UV p.d0).tdiv 256)).tmod 16777216) = genV p.d0 := by
    have h1 := UV_nonneg p.d0
    have h2 := UV_lt p.d0
    rw [gen_eq, Int.tdiv_eq_ediv_of_nonneg h1, wU64 (n := UV p.d0 / 256) (by omega), Int.tmod_eq_emod_of_nonneg (by omega), wI64 (by omega)]
  refine FnP.enter Tryd.func42 Tryd.ntmps42 rfl rfl ?_
  intro c hX
  refine JC_seq ?_
  refine JC_region ?_
  (refine JL_n rfl (op_box (Ev.rfl' rfl) cellsT) ?_; intro i1)
  refine JL_1 rfl (op_assign rfl) ?_
  refine JL_nil ?_
  refine JQ_then (JC_seq ?_)
  refine JC_region ?_
  refine JL_1 rfl (by first | exact op_fieldPtr (k := 2) (Ev.rfl' rfl) rfl rfl rfl rfl | exact op_fieldRefN (k := 2) (Ev.rfl' rfl) rfl rfl rfl rfl nrmT) ?_
  refine JL_1 rfl (op_indexArr (k := 0) (sz := 1) (Ev.rfl' rfl) (Ev.rfl' rfl) rfl rfl idxT (by first | decide | omega)) ?_
  refine JL_1 rfl (by first | exact op_loadRef (Ev.rfl' rfl) rfl rfl rfl | exact op_loadPtr (Ev.rfl' rfl) memT (by rfl) (by rfl) (by rfl)) ?_
  refine JL_1 rfl (op_quo (Ev.rfl' rfl) (Ev.rfl' rfl) (by omega) wrapT) ?_
  refine JL_1 rfl (op_rem (Ev.rfl' rfl) (Ev.rfl' rfl) (by omega) rfl) ?_
  refine JL_1 rfl (op_conv (Ev.rfl' rfl) rfl rfl convT) ?_
  refine JL_1 rfl (op_assign rfl) ?_
  refine JL_nil ?_
  refine JQ_then (JC_ret ?_)
  refine JQ_ret1 Tryd.results42 rfl () (SubL.eq ?_) (List.nil_sublist _)
  rw [← e]
theorem or_nat (a b : BitVec 64) (n : Nat) (ha : a.toNat < 2 ^ n) (hb : b.toNat * 2 ^ n < 2 ^ 64) : (a ||| b <<< n).toNat = a.toNat + b.toNat * 2 ^ n := by
  rw [BitVec.toNat_or, BitVec.toNat_shiftLeft, Nat.shiftLeft_eq, Nat.mod_eq_of_lt hb, Nat.mul_comm, Nat.or_comm, ← Nat.two_pow_add_eq_or_of_lt ha, Nat.add_comm]
theorem tag_add (k g : BitVec 64) (z : BitVec 32) : (k &&& BitVec.ofInt 64 255) + (g &&& BitVec.ofInt 64 16777215) * BitVec.ofInt 64 256 + z.setWidth 64 <<< 32 = (k &&& BitVec.ofInt 64 255) ||| ((g &&& BitVec.ofInt 64 16777215) <<< 8) ||| (z.setWidth 64 <<< 32) := by
  have h1 : (k &&& BitVec.ofInt 64 255).toNat < 256 := by
    rw [BitVec.toNat_and]
    exact Nat.lt_of_le_of_lt Nat.and_le_right (by decide)
  have h2 : (g &&& BitVec.ofInt 64 16777215).toNat < 16777216 := by
    rw [BitVec.toNat_and]
    exact Nat.lt_of_le_of_lt Nat.and_le_right (by decide)
  generalize (k &&& BitVec.ofInt 64 255) = a at *
  generalize (g &&& BitVec.ofInt 64 16777215) = b at *
  have h3 := or_nat a b 8 (by omega) (by omega)
  have hz : (z.setWidth 64).toNat = z.toNat := by rw [BitVec.toNat_setWidth]; have := z.isLt; omega
  have h4 := or_nat (a ||| b <<< 8) (z.setWidth 64) 32 (by omega) (by have := z.isLt; omega)
  apply BitVec.eq_of_toNat_eq
  rw [h4, h3]
  simp only [BitVec.toNat_add, BitVec.toNat_mul, BitVec.toNat_shiftLeft, Nat.shiftLeft_eq, hz, show (BitVec.ofInt 64 256).toNat = 256 from rfl]
  have := z.isLt
  omega
-- bodegaref19.Tag: function 41
theorem TagR_ok (k g : Int) (a : BitVec 32) : FnP Tryd.prog 41 [Is (.int .i64 k), Is (.int .i64 g), Is (.int .u32 (UV a))] (Is (.int .u64 (UV (packT ⟨k, g, a⟩)))) := by
  refine FnP.enter Tryd.func41 Tryd.ntmps41 rfl rfl ?_
  intro c hX
  refine JC_seq ?_
  refine JC_region ?_
  refine JL_1 rfl (op_assign rfl) ?_
  refine JL_nil ?_
  refine JQ_then (JC_seq ?_)
  refine JC_region ?_
  refine JL_1 rfl (op_move rfl) ?_
  refine JL_1 rfl (op_conv (Ev.rfl' rfl) rfl rfl convT) ?_
  refine JL_1 rfl (op_rem (Ev.rfl' rfl) (Ev.rfl' rfl) (by omega) rfl) ?_
  rw [rem8]
  refine JL_1 rfl (op_move rfl) ?_
  refine JL_1 rfl (op_conv (Ev.rfl' rfl) rfl rfl convT) ?_
  refine JL_1 rfl (op_rem (Ev.rfl' rfl) (Ev.rfl' rfl) (by omega) rfl) ?_
  rw [rem24]
  refine JL_1 rfl (by first | exact op_binU ev64 ev64 (mul_u64 _ _ _) | exact op_mul (Ev.rfl' rfl) (Ev.rfl' rfl) wrapT) ?_
  refine JL_1 rfl (by first | exact op_binU ev64 ev64 (add_u64 _ _ _) | exact op_add (Ev.rfl' rfl) (Ev.rfl' rfl) wrapT) ?_
  refine JL_1 rfl (op_move rfl) ?_
  refine JL_1 rfl (op_conv (Ev.rfl' rfl) rfl rfl convT) ?_
  refine JL_1 rfl (by first | exact op_shlU (k := 32) ev64 (Ev.rfl' rfl) (by first | omega | exact UV_nonneg _) idxT | exact op_shl (Ev.rfl' rfl) (Ev.rfl' rfl) (by first | omega | exact UV_nonneg _) rfl) ?_
  refine JL_1 rfl (by first | exact op_binU ev64 ev64 (add_u64 _ _ _) | exact op_add (Ev.rfl' rfl) (Ev.rfl' rfl) wrapT) ?_
  refine JL_1 rfl (op_assign rfl) ?_
  refine JL_nil ?_
  refine JQ_then (JC_ret ?_)
  refine JQ_ret1 Tryd.results41 rfl () (SubL.eq ?_) (List.nil_sublist _)
  unfold packT; rw [← tag_add]
end Go.Proofs.YtmcaomdjlepapaaDoor

/- Plain laws of directory pages. Own work. -/
namespace Go.Proofs.YtmcaomdjlepapaaDoor
open Go.RowKit
set_option linter.unusedVariables false
set_option linter.unusedSimpArgs false
set_option maxRecDepth 100000
theorem tag_nat (x : BitVec 64) (z : BitVec 32) : (packT ⟨kindV x, genV x, z⟩).toNat = x.toNat % 4294967296 + z.toNat * 4294967296 := by
  have h1 := UV_low 64 8 x (BitVec.ofInt 64 255) rfl
  have h2 := UV_low 64 24 (x >>> 8) (BitVec.ofInt 64 16777215) rfl
  have h3 := UV_shr 64 x 8
  unfold packT kindV genV
  dsimp only
  rw [ofInt_UV, ofInt_UV, BitVec.and_assoc, BitVec.and_self, BitVec.and_assoc, BitVec.and_self]
  unfold UV at h1 h2 h3
  generalize hA : x &&& BitVec.ofInt 64 255 = A at *
  generalize hB : x >>> 8 &&& BitVec.ofInt 64 16777215 = B at *
  have hz : (z.setWidth 64).toNat = z.toNat := by rw [BitVec.toNat_setWidth]; have := z.isLt; omega
  have hx := x.isLt
  have g1 := or_nat A B 8 (by omega) (by omega)
  have g2 := or_nat (A ||| B <<< 8) (z.setWidth 64) 32 (by omega) (by have := z.isLt; omega)
  rw [g2, g1, hz]
  omega
theorem aux_nat (x : BitVec 64) : (auxV x).toNat = x.toNat / 4294967296 := by
  unfold auxV
  rw [BitVec.toNat_setWidth, BitVec.toNat_ushiftRight, Nat.shiftRight_eq_div_pow]
  have := x.isLt
  omega
theorem tag_same (x : BitVec 64) (z : BitVec 32) : packT ⟨kindV x, genV x, z⟩ = x ↔ z = auxV x := by
  have h1 := tag_nat x z
  have h2 := aux_nat x
  constructor
  · intro e
    rw [e] at h1
    apply BitVec.eq_of_toNat_eq
    omega
  · intro e
    apply BitVec.eq_of_toNat_eq
    rw [h1, e, h2]
    omega
theorem tag_kind (x : BitVec 64) (z : BitVec 32) : kindV (packT ⟨kindV x, genV x, z⟩) = kindV x := by
  have h := tag_nat x z
  generalize packT ⟨kindV x, genV x, z⟩ = y at *
  rw [kind_eq, kind_eq]
  unfold UV
  omega
theorem tag_gen (x : BitVec 64) (z : BitVec 32) : genV (packT ⟨kindV x, genV x, z⟩) = genV x := by
  have h := tag_nat x z
  generalize packT ⟨kindV x, genV x, z⟩ = y at *
  rw [gen_eq, gen_eq]
  unfold UV
  omega
theorem tag_aux (x : BitVec 64) (z : BitVec 32) : auxV (packT ⟨kindV x, genV x, z⟩) = z := by
  apply BitVec.eq_of_toNat_eq
  rw [aux_nat, tag_nat]
  omega
theorem wd_pack (i : Nat) (hi : i + 1 < 8) (a b : BitVec 32) : wd8 8 i a b = packW a (b.setWidth 64) := by
  unfold wd8
  rw [if_pos hi]
  simp [packW]
theorem pack_w32 (x : BitVec 64) : packW (w32 x 0) ((w32 x 32).setWidth 64) = x := by
  apply BitVec.eq_of_toNat_eq
  unfold packW w32
  have hx := x.isLt
  have e0 : (((x >>> 0).setWidth 32 : BitVec 32).setWidth 64).toNat = x.toNat % 4294967296 := by
    simp only [BitVec.toNat_setWidth, BitVec.toNat_ushiftRight, Nat.shiftRight_eq_div_pow]
    omega
  have e1 : (((x >>> 32).setWidth 32 : BitVec 32).setWidth 64).toNat = x.toNat / 4294967296 := by
    simp only [BitVec.toNat_setWidth, BitVec.toNat_ushiftRight, Nat.shiftRight_eq_div_pow]
    omega
  rw [or_nat _ _ 32 (by omega) (by omega), e0, e1]
  omega
theorem pack_un {w : BitVec 32} (h : okW w = true) : packP (unpackP w) = w := by
  unfold okW at h
  simp only [Bool.or_eq_true, beq_iff_eq] at h
  rcases h with h | h
  · have e : w = 0#32 := by
      apply BitVec.eq_of_toNat_eq
      unfold UV at h
      simp
      omega
    subst e
    rfl
  · exact pack_unpack h
def wrd (p : Pg) : Nat → BitVec 32
  | 0 => w32 p.d1 0
  | 1 => w32 p.d1 32
  | 2 => w32 p.d2 0
  | 3 => w32 p.d2 32
  | 4 => w32 p.d3 0
  | 5 => w32 p.d3 32
  | 6 => w32 p.d4 0
  | _ => w32 p.d4 32
def ok8 (p : Pg) : Nat → Bool
  | 0 => kindV p.d0 == 3
  | k + 1 => ok8 p k && okW (wrd p k)
def s8K (p : Pg) (k : Nat) : S8 := ⟨ptK k 0 (unpackP (w32 p.d1 0)), ptK k 1 (unpackP (w32 p.d1 32)), ptK k 2 (unpackP (w32 p.d2 0)), ptK k 3 (unpackP (w32 p.d2 32)), ptK k 4 (unpackP (w32 p.d3 0)), ptK k 5 (unpackP (w32 p.d3 32)), ptK k 6 (unpackP (w32 p.d4 0)), ptK k 7 (unpackP (w32 p.d4 32))⟩
def dataB (p q : Pg) : Bool := p.d0 == q.d0 && (p.d1 == q.d1 && (p.d2 == q.d2 && (p.d3 == q.d3 && (p.d4 == q.d4 && (p.d5 == q.d5 && p.d6 == q.d6)))))
def readS (p : Pg) : S8 × Int := if ok8 p 8 && dataB (fillK p (s8K p 8) 8) p then (s8K p 8, 0) else (S8.nil, 14)
theorem ok8_le {p : Pg} {k j : Nat} (h : ok8 p (k + j) = true) : ok8 p k = true := by
  induction j with
  | zero => exact h
  | succ j ih =>
    apply ih
    have h' : (ok8 p (k + j) && okW (wrd p (k + j))) = true := h
    simp only [Bool.and_eq_true] at h'
    exact h'.1
theorem ok8_all {p : Pg} (h : ok8 p 8 = true) : (kindV p.d0 = 3 ∧ okW (w32 p.d1 0) = true ∧ okW (w32 p.d1 32) = true ∧ okW (w32 p.d2 0) = true ∧ okW (w32 p.d2 32) = true ∧ okW (w32 p.d3 0) = true ∧ okW (w32 p.d3 32) = true ∧ okW (w32 p.d4 0) = true ∧ okW (w32 p.d4 32) = true) := by
  have h' : (((((((((kindV p.d0 == 3) && okW (w32 p.d1 0)) && okW (w32 p.d1 32)) && okW (w32 p.d2 0)) && okW (w32 p.d2 32)) && okW (w32 p.d3 0)) && okW (w32 p.d3 32)) && okW (w32 p.d4 0)) && okW (w32 p.d4 32)) = true := h
  simp only [Bool.and_eq_true, beq_iff_eq] at h'
  obtain ⟨⟨⟨⟨⟨⟨⟨⟨a, b⟩, c⟩, d⟩, e⟩, f⟩, g⟩, i⟩, j⟩ := h'
  exact ⟨a, b, c, d, e, f, g, i, j⟩
theorem ok8_mk {p : Pg} (h : kindV p.d0 = 3 ∧ okW (w32 p.d1 0) = true ∧ okW (w32 p.d1 32) = true ∧ okW (w32 p.d2 0) = true ∧ okW (w32 p.d2 32) = true ∧ okW (w32 p.d3 0) = true ∧ okW (w32 p.d3 32) = true ∧ okW (w32 p.d4 0) = true ∧ okW (w32 p.d4 32) = true) : ok8 p 8 = true := by
  show (((((((((kindV p.d0 == 3) && okW (w32 p.d1 0)) && okW (w32 p.d1 32)) && okW (w32 p.d2 0)) && okW (w32 p.d2 32)) && okW (w32 p.d3 0)) && okW (w32 p.d3 32)) && okW (w32 p.d4 0)) && okW (w32 p.d4 32)) = true
  obtain ⟨a, b, c, d, e, f, g, i, j⟩ := h
  rw [a, b, c, d, e, f, g, i, j]
  rfl
theorem data_ok {p : Pg} (h : ok8 p 8 = true) : dataB (fillK p (s8K p 8) 8) p = (decide (auxV p.d0 = 0#32) && (decide (p.d5 = 0#64) && decide (p.d6 = 0#64))) := by
  obtain ⟨-, h1, h2, h3, h4, h5, h6, h7, h8⟩ := ok8_all h
  have e0 : ((fillK p (s8K p 8) 8).d0 == p.d0) = decide (auxV p.d0 = 0#32) := by
    show (packT ⟨kindV p.d0, genV p.d0, 0#32⟩ == p.d0) = _
    rw [Bool.eq_iff_iff, beq_iff_eq, tag_same, decide_eq_true_iff]
    exact ⟨Eq.symm, Eq.symm⟩
  have e1 : (fillK p (s8K p 8) 8).d1 = p.d1 := by
    show wd8 8 0 (packP (unpackP (w32 p.d1 0))) (packP (unpackP (w32 p.d1 32))) = p.d1
    rw [wd_pack 0 (by omega), pack_un h1, pack_un h2, pack_w32]
  have e2 : (fillK p (s8K p 8) 8).d2 = p.d2 := by
    show wd8 8 2 (packP (unpackP (w32 p.d2 0))) (packP (unpackP (w32 p.d2 32))) = p.d2
    rw [wd_pack 2 (by omega), pack_un h3, pack_un h4, pack_w32]
  have e3 : (fillK p (s8K p 8) 8).d3 = p.d3 := by
    show wd8 8 4 (packP (unpackP (w32 p.d3 0))) (packP (unpackP (w32 p.d3 32))) = p.d3
    rw [wd_pack 4 (by omega), pack_un h5, pack_un h6, pack_w32]
  have e4 : (fillK p (s8K p 8) 8).d4 = p.d4 := by
    show wd8 8 6 (packP (unpackP (w32 p.d4 0))) (packP (unpackP (w32 p.d4 32))) = p.d4
    rw [wd_pack 6 (by omega), pack_un h7, pack_un h8, pack_w32]
  unfold dataB
  rw [e0, e1, e2, e3, e4]
  simp only [BEq.rfl, Bool.true_and]
  show (decide (auxV p.d0 = 0#32) && (0#64 == p.d5 && 0#64 == p.d6)) = _
  congr 2 <;> rw [Bool.eq_iff_iff, beq_iff_eq, decide_eq_true_iff] <;> exact ⟨Eq.symm, Eq.symm⟩
def s8l (s : S8) : List Pt := [s.s0, s.s1, s.s2, s.s3, s.s4, s.s5, s.s6, s.s7]
def writeS (p : Pg) (s : S8) : Pg × Int := if (!(kindV p.d0 == 3) || (s8l s).any fun q => !fieldB q) then (Pg.nil, 1) else (fillK p s 8, 0)
theorem writeS_ok {p : Pg} {s : S8} (h : (writeS p s).2 = 0) : kindV p.d0 = 3 ∧ (∀ q ∈ s8l s, fieldB q = true) ∧ writeS p s = (fillK p s 8, 0) := by
  unfold writeS at h ⊢
  cases hb : (!(kindV p.d0 == 3) || (s8l s).any fun q => !fieldB q) with
  | true => rw [hb] at h; simp at h
  | false =>
    simp only [Bool.or_eq_false_iff] at hb
    refine ⟨by simpa using hb.1, fun q hq => ?_, by simp⟩
    have h2 := List.any_eq_false.1 hb.2 q hq
    simpa using h2
theorem back_slots {p : Pg} {s : S8} (hk : kindV p.d0 = 3) (h : ∀ q ∈ s8l s, fieldB q = true) : readS (fillK p s 8) = (s, 0) := by
  obtain ⟨e0, o0⟩ := field_back (h s.s0 (by simp [s8l]))
  obtain ⟨e1, o1⟩ := field_back (h s.s1 (by simp [s8l]))
  obtain ⟨e2, o2⟩ := field_back (h s.s2 (by simp [s8l]))
  obtain ⟨e3, o3⟩ := field_back (h s.s3 (by simp [s8l]))
  obtain ⟨e4, o4⟩ := field_back (h s.s4 (by simp [s8l]))
  obtain ⟨e5, o5⟩ := field_back (h s.s5 (by simp [s8l]))
  obtain ⟨e6, o6⟩ := field_back (h s.s6 (by simp [s8l]))
  obtain ⟨e7, o7⟩ := field_back (h s.s7 (by simp [s8l]))
  have d0 : (fillK p s 8).d0 = packT ⟨kindV p.d0, genV p.d0, 0#32⟩ := rfl
  have d1 : (fillK p s 8).d1 = packW (packP s.s0) ((packP s.s1).setWidth 64) := wd_pack 0 (by omega) _ _
  have d2 : (fillK p s 8).d2 = packW (packP s.s2) ((packP s.s3).setWidth 64) := wd_pack 2 (by omega) _ _
  have d3 : (fillK p s 8).d3 = packW (packP s.s4) ((packP s.s5).setWidth 64) := wd_pack 4 (by omega) _ _
  have d4 : (fillK p s 8).d4 = packW (packP s.s6) ((packP s.s7).setWidth 64) := wd_pack 6 (by omega) _ _
  have lo : ∀ (x : BitVec 32) (y : BitVec 64), w32 (packW x y) 0 = x := fun x y => by unfold w32; rw [BitVec.ushiftRight_zero, pack_low]
  have hi : ∀ (x z : BitVec 32), w32 (packW x (z.setWidth 64)) 32 = z := fun x z => by unfold w32; rw [pack_high, setW_setW]
  have hok : ok8 (fillK p s 8) 8 = true := ok8_mk (by
    rw [d0, d1, d2, d3, d4, tag_kind]
    simp only [lo, hi]
    exact ⟨hk, o0, o1, o2, o3, o4, o5, o6, o7⟩)
  have hs : s8K (fillK p s 8) 8 = s := by
    show S8.mk (unpackP (w32 (fillK p s 8).d1 0)) (unpackP (w32 (fillK p s 8).d1 32)) (unpackP (w32 (fillK p s 8).d2 0)) (unpackP (w32 (fillK p s 8).d2 32)) (unpackP (w32 (fillK p s 8).d3 0)) (unpackP (w32 (fillK p s 8).d3 32)) (unpackP (w32 (fillK p s 8).d4 0)) (unpackP (w32 (fillK p s 8).d4 32)) = s
    rw [d1, d2, d3, d4]
    simp only [lo, hi, e0, e1, e2, e3, e4, e5, e6, e7]
  unfold readS
  rw [hok, data_ok hok, d0, tag_aux, hs]
  rfl
end Go.Proofs.YtmcaomdjlepapaaDoor

/- The walk of HashRoots. Own work. -/
namespace Go.Proofs.YtmcaomdjlepapaaDoor
open Go.RowKit
set_option linter.unusedVariables false
set_option linter.unusedSimpArgs false
set_option maxRecDepth 100000
def Pg.setd (p : Pg) (j : Nat) (x : BitVec 64) : Pg := match j with
  | 0 => { p with d0 := x }
  | 1 => { p with d1 := x }
  | 2 => { p with d2 := x }
  | 3 => { p with d3 := x }
  | 4 => { p with d4 := x }
  | 5 => { p with d5 := x }
  | _ => { p with d6 := x }
theorem setd_cells (p : Pg) {j : Nat} (x : BitVec 64) (hj : j < 7) : tPg.cells (p.setd j x) = ovr (tPg.cells p) (2 + j) [Is (.int .u64 (UV x))] := by
  match j, hj with
  | 0, _ => rfl
  | 1, _ => rfl
  | 2, _ => rfl
  | 3, _ => rfl
  | 4, _ => rfl
  | 5, _ => rfl
  | 6, _ => rfl
theorem data_cell (p : Pg) {j : Nat} (hj : j < 7) : ∃ x : BitVec 64, (tPg.cells p)[2 + j]? = some (Is (.int .u64 (UV x))) := by
  match j, hj with
  | 0, _ => exact ⟨_, rfl⟩
  | 1, _ => exact ⟨_, rfl⟩
  | 2, _ => exact ⟨_, rfl⟩
  | 3, _ => exact ⟨_, rfl⟩
  | 4, _ => exact ⟨_, rfl⟩
  | 5, _ => exact ⟨_, rfl⟩
  | 6, _ => exact ⟨_, rfl⟩
theorem tdiv_in {n : Int} (h : I64ok n) (k : Int) (hk : 1 ≤ k) : -9223372036854775808 ≤ n.tdiv k ∧ n.tdiv k ≤ 9223372036854775807 := by
  obtain ⟨h1, h2⟩ := h
  rcases Int.le_total 0 n with h0 | h0
  · rw [Int.tdiv_eq_ediv_of_nonneg h0]
    have a1 := Int.ediv_nonneg h0 (show 0 ≤ k by omega)
    have a2 := Int.ediv_le_self k h0
    omega
  · have e : n.tdiv k = -((-n).tdiv k) := by rw [Int.neg_tdiv]; simp
    rw [e, Int.tdiv_eq_ediv_of_nonneg (by omega)]
    have a1 := Int.ediv_nonneg (show 0 ≤ -n by omega) (show 0 ≤ k by omega)
    have a2 := Int.ediv_le_self k (show 0 ≤ -n by omega)
    omega
theorem write_ok {p : Pg} {r : Rt} (h : (writeR p r).2 = 0) : p.l = 96 ∧ rootB r = true ∧ writeR p r = (writeV p r, 0) := by
  unfold writeR at h ⊢
  cases hb : (p.l != 96 || !rootB r) with
  | true => rw [hb] at h; simp at h
  | false =>
    simp only [Bool.or_eq_false_iff] at hb
    refine ⟨by simpa using hb.1, by simpa using hb.2, ?_⟩
    simp
-- bodegalaw23.HashRoots: function 3
set_option maxHeartbeats 8000000 in
theorem HashRoots_ok (p : Pg) (r : Rt) (n : Int) (hn : I64ok n) : FnK Tryd.prog 3 gNone [IsPg p, IsRt r, Is (.int .i64 n)] (Is (.bool true)) := by
  have ht1 := tdiv_in hn 8 (by omega)
  have ht2 := tdiv_in hn 24 (by omega)
  refine Fn.enterN Tryd.func3 Tryd.ntmps3 rfl rfl ?_
  intro c hX
  refine JC_seq ?_
  refine JC_region ?_
  (refine JL_n rfl (op_box (Ev.rfl' rfl) cellsT) ?_; intro i3)
  (refine JL_n rfl (op_box (Ev.rfl' rfl) cellsT) ?_; intro i4)
  refine JL_1 rfl (op_assign rfl) ?_
  refine JL_nil ?_
  refine JQ_then (JC_seq (JC_seq ?_))
  refine JC_region ?_
  refine JL_1 rfl (op_move rfl) ?_
  refine JL_1 rfl (by first | ((refine op_call Tryd.call6 (PickH_ok _ _ ?_ ?_) ⟨evS, ⟨evS, trivial⟩⟩); all_goals (first | omega))) ?_
  refine JL_1 rfl (op_gtr (Ev.rfl' rfl) (Ev.rfl' rfl)) ?_
  refine JL_nil ?_
  refine JQ_then ?_
  refine JC_cutT (fun z : Pg × Rt => True) (fun z => [(2, Is (.int .i64 n)), (3, Is (.pointer (some ⟨i3, 0, none⟩))), (4, Is (.pointer (some ⟨i4, 0, none⟩)))]) (fun z => [blk i3 25 (tPg.cells z.1), blk i4 30 (tRt.cells z.2), gNone]) ?_ ?_
  rotate_left
  focus
    refine JC_cond (Ev.rfl' rfl) (fun h1 => ?_) (fun h1 => ?_)
    · refine JC_seq ?_
      refine JC_region ?_
      refine JL_1 rfl (by first | exact op_fieldPtr (k := 0) (Ev.rfl' rfl) rfl rfl rfl rfl | exact op_fieldRefN (k := 0) (Ev.rfl' rfl) rfl rfl rfl rfl nrmT) ?_
      refine JL_s0 (op_storeN (Ev.rfl' rfl) (Ev.rfl' rfl) cellsT replT nrmT (by rfl) (by rfl) (by rfl)) ?_
      refine JL_nil ?_
      refine JQ_then (JC_seq ?_)
      refine JC_region ?_
      refine JL_1 rfl (by first | exact op_fieldPtr (k := 2) (Ev.rfl' rfl) rfl rfl rfl rfl | exact op_fieldRefN (k := 2) (Ev.rfl' rfl) rfl rfl rfl rfl nrmT) ?_
      refine JL_1 rfl (by first | exact op_loadRef (Ev.rfl' rfl) rfl rfl rfl | exact op_loadPtr (Ev.rfl' rfl) memT (by rfl) (by rfl) (by rfl)) ?_
      refine JL_1 rfl (by first | ((refine op_call Tryd.call6 (PickH_ok _ _ ?_ ?_) ⟨evS, ⟨evS, trivial⟩⟩); all_goals (first | omega))) ?_
      refine JL_1 rfl (op_sub (Ev.rfl' rfl) (Ev.rfl' rfl) wrapT) ?_
      refine JL_1 rfl (by first | exact op_fieldPtr (k := 2) (Ev.rfl' rfl) rfl rfl rfl rfl | exact op_fieldRefN (k := 2) (Ev.rfl' rfl) rfl rfl rfl rfl nrmT) ?_
      refine JL_s0 (op_storeN (Ev.rfl' rfl) (Ev.rfl' rfl) cellsT replT nrmT (by rfl) (by rfl) (by rfl)) ?_
      refine JL_nil ?_
      refine JQ_then (JC_seq ?_)
      refine JC_region ?_
      refine JL_1 rfl (by first | exact op_fieldPtr (k := 0) (Ev.rfl' rfl) rfl rfl rfl rfl | exact op_fieldRefN (k := 0) (Ev.rfl' rfl) rfl rfl rfl rfl nrmT) ?_
      refine JL_1 rfl (by first | exact op_loadRefsN (n := 2) (Ev.rfl' rfl) rfl rfl rfl (by rfl) nrmT | exact op_loadPtrsN (n := 2) (Ev.rfl' rfl) memT (by rfl) (by rfl) (by rfl) (by rfl) nrmT) ?_
      refine JL_1 rfl (op_call Tryd.call7 (aim_ok _) ⟨evS, trivial⟩) ?_
      refine JL_ex 29 rfl (fun qf => ?_)
      refine JL_1 rfl (by first | exact op_fieldPtr (k := 0) (Ev.rfl' rfl) rfl rfl rfl rfl | exact op_fieldRefN (k := 0) (Ev.rfl' rfl) rfl rfl rfl rfl nrmT) ?_
      refine JL_s0 (op_storeN (Ev.rfl' rfl) (Ev.rfl' rfl) cellsT replT nrmT (by rfl) (by rfl) (by rfl)) ?_
      refine JL_nil ?_
      refine JQ_then (JC_seq (JC_seq ?_))
      refine JC_region ?_
      refine JL_1 rfl (op_assign rfl) ?_
      refine JL_nil ?_
      refine JQ_then (JC_block ?_)
      refine JC_loopP (fun z : Nat × Rt => z.1 ≤ 4) (fun z => [(2, Is (.int .i64 n)), (3, Is (.pointer (some ⟨i3, 0, none⟩))), (4, Is (.pointer (some ⟨i4, 0, none⟩))), (7, Is (.int .i64 (z.1 : Nat)))]) (fun z => [blk i3 25 (tPg.cells ⟨96, p.h, p.d0, p.d1, p.d2, p.d3, p.d4, p.d5, p.d6⟩), blk i4 30 (tRt.cells z.2), gNone]) (fun z => 4 - z.1) (0, ⟨qf, r.depth % 9 - 1, r.p0, r.p1, r.p2, r.p3⟩) (Nat.zero_le _) esubT lessT ?_
      rintro ⟨k, z⟩ hk
      dsimp only at hk ⊢
      refine JC_seq (JC_seq ?_)
      refine JC_region ?_
      refine JL_1 rfl (op_move rfl) ?_
      refine JL_1 rfl (op_lss (Ev.rfl' rfl) (Ev.rfl' rfl)) ?_
      refine JL_nil ?_
      refine JQ_then ?_
      refine JC_cond (Ev.rfl' rfl) (fun h6 => ?_) (fun h6 => ?_)
      · have hk4 : k = 0 ∨ k = 1 ∨ k = 2 ∨ k = 3 := by have := of_decide_eq_true h6; omega
        clear h6
        rcases hk4 with rfl | rfl | rfl | rfl
        all_goals
          refine JC_skip (JQ_then (JC_seq (JC_block ?_)))
          refine JC_region ?_
          refine JL_1 rfl (op_move rfl) ?_
          refine JL_1 rfl (op_move rfl) ?_
          refine JL_1 rfl (by first | exact op_fieldPtr (k := 3) (Ev.rfl' rfl) rfl rfl rfl rfl | exact op_fieldRefN (k := 3) (Ev.rfl' rfl) rfl rfl rfl rfl nrmT) ?_
          refine JL_1 rfl (op_indexArr (k := _) (sz := 2) (Ev.rfl' rfl) (Ev.rfl' rfl) rfl rfl idxT (by first | decide | omega)) ?_
          refine JL_1 rfl (by first | exact op_loadRefsN (n := 2) (Ev.rfl' rfl) rfl rfl rfl (by rfl) nrmT | exact op_loadPtrsN (n := 2) (Ev.rfl' rfl) memT (by rfl) (by rfl) (by rfl) (by rfl) nrmT) ?_
          refine JL_1 rfl (op_call Tryd.call7 (aim_ok _) ⟨evS, trivial⟩) ?_
          refine JL_ex 40 rfl (fun qk => ?_)
          refine JL_1 rfl (by first | exact op_fieldPtr (k := 3) (Ev.rfl' rfl) rfl rfl rfl rfl | exact op_fieldRefN (k := 3) (Ev.rfl' rfl) rfl rfl rfl rfl nrmT) ?_
          refine JL_1 rfl (op_indexArr (k := _) (sz := 2) (Ev.rfl' rfl) (Ev.rfl' rfl) rfl rfl idxT (by first | decide | omega)) ?_
          refine JL_s0 (op_storeN (Ev.rfl' rfl) (Ev.rfl' rfl) cellsT replT nrmT (by rfl) (by rfl) (by rfl)) ?_
          refine JL_nil ?_
          refine JQ_block (JQ_then ?_)
          refine JC_region ?_
          refine JL_1 rfl (op_move rfl) ?_
          refine JL_1 rfl (op_add (Ev.rfl' rfl) (Ev.rfl' rfl) wrapT) ?_
          refine JL_1 rfl (op_assign rfl) ?_
          refine JL_nil ?_
          first | exact JQ_roundP (1, ⟨z.first, z.depth, qk, z.p1, z.p2, z.p3⟩) (by dsimp only; omega) (by dsimp only; omega) esubT lessT | exact JQ_roundP (2, ⟨z.first, z.depth, z.p0, qk, z.p2, z.p3⟩) (by dsimp only; omega) (by dsimp only; omega) esubT lessT | exact JQ_roundP (3, ⟨z.first, z.depth, z.p0, z.p1, qk, z.p3⟩) (by dsimp only; omega) (by dsimp only; omega) esubT lessT | exact JQ_roundP (4, ⟨z.first, z.depth, z.p0, z.p1, z.p2, qk⟩) (by dsimp only; omega) (by dsimp only; omega) esubT lessT
      refine JC_exit (JQ_then_exit (JQ_then_exit (JQ_hit (JQ_then (JC_seq ?_)))))
      refine JC_region ?_
      refine JL_1 rfl (op_move rfl) ?_
      refine JL_1 rfl (op_rem (Ev.rfl' rfl) (Ev.rfl' rfl) (by omega) rfl) ?_
      refine JL_1 rfl (op_eql (Ev.rfl' rfl) (Ev.rfl' rfl)) ?_
      refine JL_nil ?_
      refine JQ_then ?_
      refine JC_cond (Ev.rfl' rfl) (fun h9 => ?_) (fun h9 => ?_)
      · refine JC_region ?_
        refine JL_1 rfl (op_buildN (qs := []) rfl rfl rfl rfl trivial (by rfl) nrmT) ?_
        refine JL_s0 (op_storeN (Ev.rfl' rfl) (Ev.rfl' rfl) cellsT replT nrmT (by rfl) (by rfl) (by rfl)) ?_
        refine JL_nil ?_
        exact JQ_meetP (⟨96, p.h, p.d0, p.d1, p.d2, p.d3, p.d4, p.d5, p.d6⟩, Rt.nil) trivial esubT lessT
      refine JC_skip ?_
      exact JQ_meetP (⟨96, p.h, p.d0, p.d1, p.d2, p.d3, p.d4, p.d5, p.d6⟩, z) trivial esubT lessT
    refine JC_skip ?_
    exact JQ_meetP (p, r) trivial esubT lessT
  rintro ⟨q, s⟩ _
  dsimp only
  refine JC_seq ?_
  refine JC_region ?_
  refine JL_1 rfl (by first | exact op_loadRefsN (n := 9) (Ev.rfl' rfl) rfl rfl rfl (by rfl) nrmT | exact op_loadPtrsN (n := 9) (Ev.rfl' rfl) memT (by rfl) (by rfl) (by rfl) (by rfl) nrmT) ?_
  refine JL_1 rfl (by first | ((refine op_callK Tryd.call8 (ReadRoot_ok _) ⟨evS, trivial⟩ memT))) ?_
  refine JL_1 rfl (op_move rfl) ?_
  refine JL_1 rfl (op_extract (Ev.rfl' rfl) rfl) ?_
  refine JL_1 rfl (op_extract (Ev.rfl' rfl) rfl) ?_
  (refine JL_n rfl (op_allocN rfl nrmT rfl) ?_; intro i8)
  refine JL_s0 (op_storeN (Ev.rfl' rfl) (Ev.rfl' rfl) cellsT replT nrmT (by rfl) (by rfl) (by rfl)) ?_
  refine JL_1 rfl (op_assign rfl) ?_
  refine JL_nil ?_
  refine JQ_then (JC_seq ?_)
  refine JC_region ?_
  refine JL_1 rfl (by first | exact op_loadRefsN (n := 9) (Ev.rfl' rfl) rfl rfl rfl (by rfl) nrmT | exact op_loadPtrsN (n := 9) (Ev.rfl' rfl) memT (by rfl) (by rfl) (by rfl) (by rfl) nrmT) ?_
  refine JL_1 rfl (op_call Tryd.call9 (ReadRootR_ok _) ⟨evS, trivial⟩) ?_
  refine JL_1 rfl (op_move rfl) ?_
  refine JL_1 rfl (op_extract (Ev.rfl' rfl) rfl) ?_
  refine JL_1 rfl (op_extract (Ev.rfl' rfl) rfl) ?_
  (refine JL_n rfl (op_allocN rfl nrmT rfl) ?_; intro i10)
  refine JL_s0 (op_storeN (Ev.rfl' rfl) (Ev.rfl' rfl) cellsT replT nrmT (by rfl) (by rfl) (by rfl)) ?_
  refine JL_1 rfl (op_assign rfl) ?_
  refine JL_nil ?_
  refine JQ_then (JC_seq ?_)
  refine JC_region ?_
  refine JL_1 rfl (by first | exact op_loadRefsN (n := 9) (Ev.rfl' rfl) rfl rfl rfl (by rfl) nrmT | exact op_loadPtrsN (n := 9) (Ev.rfl' rfl) memT (by rfl) (by rfl) (by rfl) (by rfl) nrmT) ?_
  refine JL_1 rfl (by first | exact op_loadRefsN (n := 11) (Ev.rfl' rfl) rfl rfl rfl (by rfl) nrmT | exact op_loadPtrsN (n := 11) (Ev.rfl' rfl) memT (by rfl) (by rfl) (by rfl) (by rfl) nrmT) ?_
  refine JL_1 rfl (by first | ((refine op_callK Tryd.call10 (WriteRoot_ok _ _) ⟨evS, ⟨evS, trivial⟩⟩ memT))) ?_
  refine JL_1 rfl (op_move rfl) ?_
  refine JL_1 rfl (op_extract (Ev.rfl' rfl) rfl) ?_
  refine JL_1 rfl (op_extract (Ev.rfl' rfl) rfl) ?_
  (refine JL_n rfl (op_allocN rfl nrmT rfl) ?_; intro i12)
  refine JL_s0 (op_storeN (Ev.rfl' rfl) (Ev.rfl' rfl) cellsT replT nrmT (by rfl) (by rfl) (by rfl)) ?_
  refine JL_1 rfl (op_assign rfl) ?_
  refine JL_nil ?_
  refine JQ_then (JC_seq ?_)
  refine JC_dr rfl (by kernel_rfl) ?_
  refine JD_stretch 10 (by kernel_rfl) ?_
  refine JW_1 (by first | exact op_loadRefsN (n := 9) (Ev.rfl' rfl) rfl rfl rfl (by rfl) nrmT | exact op_loadPtrsN (n := 9) (Ev.rfl' rfl) memT (by rfl) (by rfl) (by rfl) (by rfl) nrmT) ?_
  refine JW_1 (by first | exact op_loadRefsN (n := 11) (Ev.rfl' rfl) rfl rfl rfl (by rfl) nrmT | exact op_loadPtrsN (n := 11) (Ev.rfl' rfl) memT (by rfl) (by rfl) (by rfl) (by rfl) nrmT) ?_
  refine JW_1 (op_call Tryd.call12 (root_ok2 _) ⟨evS, trivial⟩) ?_
  refine JW_1 (op_call Tryd.call11 (WriteRootR_ok _ _) ⟨evS, ⟨evS, trivial⟩⟩) ?_
  refine JW_1 (op_move rfl) ?_
  refine JW_1 (op_extract (Ev.rfl' rfl) rfl) ?_
  refine JW_1 (op_extract (Ev.rfl' rfl) rfl) ?_
  refine JW_n (op_allocN rfl nrmT rfl) ?_
  refine JW_write rfl rfl rfl (by kernel_rfl) (op_storeWN evS cellsT rfl rfl rfl nrmT) ?_
  refine JW_1 (op_assign rfl) ?_
  refine ⟨rfl, ?_⟩
  intro i14
  refine JD_end ?_
  refine JQ_then (JC_seq (JC_seq ?_))
  refine JC_dr rfl (by kernel_rfl) ?_
  refine JD_stretch 24 (by kernel_rfl) ?_
  refine JW_1 (op_call Tryd.call13 (awakeH_ok) trivial) ?_
  refine JW_1 (op_not (Ev.rfl' rfl)) ?_
  refine JW_1 (op_move rfl) ?_
  (first | refine JW_i0 rfl rfl (fun hg => (by have hg0 := hg; (try simp at hg); first | exact op_loadRefsN (n := 11) evG rfl rfl rfl (by rfl) nrmT | exact op_loadPtrsN (n := 11) evG memT (by rfl) (by rfl) (by rfl) (by rfl) nrmT)) ?_ | refine JW_i rfl rfl (fun hp hg => (by have hpg := Bool.and_eq_true_iff.2 ⟨hp, hg⟩; have hg0 := hg; (try simp at hg); first | exact op_loadRefsN (n := 11) evG rfl rfl rfl (by rfl) nrmT | exact op_loadPtrsN (n := 11) evG memT (by rfl) (by rfl) (by rfl) (by rfl) nrmT)) ?_)
  (first | refine JW_i0 rfl rfl (fun hg => (by have hg0 := hg; (try simp at hg); exact op_call Tryd.call12 (root_ok2 _) ⟨evS, trivial⟩)) ?_ | refine JW_i rfl rfl (fun hp hg => (by have hpg := Bool.and_eq_true_iff.2 ⟨hp, hg⟩; have hg0 := hg; (try simp at hg); exact op_call Tryd.call12 (root_ok2 _) ⟨evS, trivial⟩)) ?_)
  (first | refine JW_i0 rfl rfl (fun hg => (by have hg0 := hg; (try simp at hg); first | exact op_loadRefsN (n := 11) evG rfl rfl rfl (by rfl) nrmT | exact op_loadPtrsN (n := 11) evG memT (by rfl) (by rfl) (by rfl) (by rfl) nrmT)) ?_ | refine JW_i rfl rfl (fun hp hg => (by have hpg := Bool.and_eq_true_iff.2 ⟨hp, hg⟩; have hg0 := hg; (try simp at hg); first | exact op_loadRefsN (n := 11) evG rfl rfl rfl (by rfl) nrmT | exact op_loadPtrsN (n := 11) evG memT (by rfl) (by rfl) (by rfl) (by rfl) nrmT)) ?_)
  (first | refine JW_i0 rfl rfl (fun hg => (by have hg0 := hg; (try simp at hg); exact op_cmpA (vs := Rt.cells (readR q).1) (ws := Rt.cells (readR q).1) evG evG (eqRtR_guard _ _ _ (readR q).1 (readR q).1) (eqRtR_neq (readR q).1 (readR q).1))) ?_ | refine JW_i rfl rfl (fun hp hg => (by have hpg := Bool.and_eq_true_iff.2 ⟨hp, hg⟩; have hg0 := hg; (try simp at hg); exact op_cmpA (vs := Rt.cells (readR q).1) (ws := Rt.cells (readR q).1) evG evG (eqRtR_guard _ _ _ (readR q).1 (readR q).1) (eqRtR_neq (readR q).1 (readR q).1))) ?_)
  refine JW_1 (op_or (Ev.rfl' rfl) rfl (fun h => by first | exact SubL.rfl' | exact SubL.iteT (by first | (rw [h]; rfl) | (simp_all; done)) SubL.rfl')) ?_
  refine JW_1 (op_move rfl) ?_
  (first | refine JW_i0 rfl rfl (fun hg => (by have hg0 := hg; (try simp at hg); first | exact op_moveE (Ev.sub rfl (SubL.iteT (by first | assumption | (simp; done) | (simp; omega) | (simp_all; done)) SubL.rfl')) | exact op_moveE (Ev.rfl' rfl))) ?_ | refine JW_i rfl rfl (fun hp hg => (by have hpg := Bool.and_eq_true_iff.2 ⟨hp, hg⟩; have hg0 := hg; (try simp at hg); first | exact op_moveE (Ev.sub rfl (SubL.iteT (by first | assumption | (simp; done) | (simp; omega) | (simp_all; done)) SubL.rfl')) | exact op_moveE (Ev.rfl' rfl))) ?_)
  (first | refine JW_i0 rfl rfl (fun hg => (by have hg0 := hg; (try simp at hg); first | exact op_moveE (Ev.sub rfl (SubL.iteT (by first | assumption | (simp; done) | (simp; omega) | (simp_all; done)) SubL.rfl')) | exact op_moveE (Ev.rfl' rfl))) ?_ | refine JW_i rfl rfl (fun hp hg => (by have hpg := Bool.and_eq_true_iff.2 ⟨hp, hg⟩; have hg0 := hg; (try simp at hg); first | exact op_moveE (Ev.sub rfl (SubL.iteT (by first | assumption | (simp; done) | (simp; omega) | (simp_all; done)) SubL.rfl')) | exact op_moveE (Ev.rfl' rfl))) ?_)
  (first | refine JW_i0 rfl rfl (fun hg => (by have hg0 := hg; (try simp at hg); exact op_neq evG evG)) ?_ | refine JW_i rfl rfl (fun hp hg => (by have hpg := Bool.and_eq_true_iff.2 ⟨hp, hg⟩; have hg0 := hg; (try simp at hg); exact op_neq evG evG)) ?_)
  refine JW_1 (op_or (Ev.rfl' rfl) rfl (fun h => by first | exact SubL.rfl' | exact SubL.iteT (by first | (rw [h]; rfl) | (simp_all; done)) SubL.rfl')) ?_
  refine JW_1 (op_move rfl) ?_
  (first | refine JW_i0 rfl rfl (fun hg => (by have hg0 := hg; (try simp at hg); first | exact op_loadRefsN (n := 9) evG rfl rfl rfl (by rfl) nrmT | exact op_loadPtrsN (n := 9) evG memT (by rfl) (by rfl) (by rfl) (by rfl) nrmT)) ?_ | refine JW_i rfl rfl (fun hp hg => (by have hpg := Bool.and_eq_true_iff.2 ⟨hp, hg⟩; have hg0 := hg; (try simp at hg); first | exact op_loadRefsN (n := 9) evG rfl rfl rfl (by rfl) nrmT | exact op_loadPtrsN (n := 9) evG memT (by rfl) (by rfl) (by rfl) (by rfl) nrmT)) ?_)
  (first | refine JW_i0 rfl rfl (fun hg => (by have hg0 := hg; (try simp at hg); first | exact op_loadRefsN (n := 9) evG rfl rfl rfl (by rfl) nrmT | exact op_loadPtrsN (n := 9) evG memT (by rfl) (by rfl) (by rfl) (by rfl) nrmT)) ?_ | refine JW_i rfl rfl (fun hp hg => (by have hpg := Bool.and_eq_true_iff.2 ⟨hp, hg⟩; have hg0 := hg; (try simp at hg); first | exact op_loadRefsN (n := 9) evG rfl rfl rfl (by rfl) nrmT | exact op_loadPtrsN (n := 9) evG memT (by rfl) (by rfl) (by rfl) (by rfl) nrmT)) ?_)
  (first | refine JW_i0 rfl rfl (fun hg => (by have hg0 := hg; (try simp at hg); exact op_call Tryd.call14 (same_refl _) ⟨evS, ⟨evS, trivial⟩⟩)) ?_ | refine JW_i rfl rfl (fun hp hg => (by have hpg := Bool.and_eq_true_iff.2 ⟨hp, hg⟩; have hg0 := hg; (try simp at hg); exact op_call Tryd.call14 (same_refl _) ⟨evS, ⟨evS, trivial⟩⟩)) ?_)
  (first | refine JW_i0 rfl rfl (fun hg => (by have hg0 := hg; (try simp at hg); exact op_not evG)) ?_ | refine JW_i rfl rfl (fun hp hg => (by have hpg := Bool.and_eq_true_iff.2 ⟨hp, hg⟩; have hg0 := hg; (try simp at hg); exact op_not evG)) ?_)
  refine JW_1 (op_or (Ev.rfl' rfl) rfl (fun h => by first | exact SubL.rfl' | exact SubL.iteT (by first | (rw [h]; rfl) | (simp_all; done)) SubL.rfl')) ?_
  refine JW_1 (op_move rfl) ?_
  (first | refine JW_i0 rfl rfl (fun hg => (by have hg0 := hg; (try simp at hg); first | exact op_moveE (Ev.sub rfl (SubL.iteT (by first | assumption | (simp; done) | (simp; omega) | (simp_all; done)) SubL.rfl')) | exact op_moveE (Ev.rfl' rfl))) ?_ | refine JW_i rfl rfl (fun hp hg => (by have hpg := Bool.and_eq_true_iff.2 ⟨hp, hg⟩; have hg0 := hg; (try simp at hg); first | exact op_moveE (Ev.sub rfl (SubL.iteT (by first | assumption | (simp; done) | (simp; omega) | (simp_all; done)) SubL.rfl')) | exact op_moveE (Ev.rfl' rfl))) ?_)
  (first | refine JW_i0 rfl rfl (fun hg => (by have hg0 := hg; (try simp at hg); first | exact op_moveE (Ev.sub rfl (SubL.iteT (by first | assumption | (simp; done) | (simp; omega) | (simp_all; done)) SubL.rfl')) | exact op_moveE (Ev.rfl' rfl))) ?_ | refine JW_i rfl rfl (fun hp hg => (by have hpg := Bool.and_eq_true_iff.2 ⟨hp, hg⟩; have hg0 := hg; (try simp at hg); first | exact op_moveE (Ev.sub rfl (SubL.iteT (by first | assumption | (simp; done) | (simp; omega) | (simp_all; done)) SubL.rfl')) | exact op_moveE (Ev.rfl' rfl))) ?_)
  (first | refine JW_i0 rfl rfl (fun hg => (by have hg0 := hg; (try simp at hg); exact op_neq evG evG)) ?_ | refine JW_i rfl rfl (fun hp hg => (by have hpg := Bool.and_eq_true_iff.2 ⟨hp, hg⟩; have hg0 := hg; (try simp at hg); exact op_neq evG evG)) ?_)
  refine JW_1 (op_or (Ev.rfl' rfl) rfl (fun h => by first | exact SubL.rfl' | exact SubL.iteT (by first | (rw [h]; rfl) | (simp_all; done)) SubL.rfl')) ?_
  refine ⟨rfl, ?_⟩
  refine JD_end ?_
  refine JQ_then ?_
  refine JC_cond (Ev.rfl' rfl) (fun h15 => ?_) (fun h15 => ?_)
  · exfalso; simp at h15
  clear h15
  refine JC_skip (JQ_then (JC_seq (JC_seq ?_)))
  refine JC_region ?_
  refine JL_1 rfl (op_move rfl) ?_
  refine JL_1 rfl (op_neq (Ev.rfl' rfl) (Ev.rfl' rfl)) ?_
  refine JL_nil ?_
  refine JQ_then ?_
  refine JC_cond (Ev.rfl' rfl) (fun h17 => ?_) (fun h17 => ?_)
  · refine JC_seq ?_
    refine JC_region ?_
    refine JL_1 rfl (op_assign rfl) ?_
    refine JL_nil ?_
    refine JQ_then (JC_ret (JQ_then_ret ?_))
    refine JQ_ret1 Tryd.results3 rfl () (SubL.eq ?_) (List.nil_sublist _)
    rfl
  obtain ⟨hl, hv, hw⟩ := write_ok (p := q) (r := s) (by simpa using h17)
  clear h17
  refine JC_blkEq (b := i12) replT (show tPg.cells (writeR q s).1 = tPg.cells (writeV q s) by rw [hw]) ?_
  refine JC_skip (JQ_then (JC_seq ?_))
  refine JC_region ?_
  refine JL_1 rfl (by first | exact op_loadRefsN (n := 9) (Ev.rfl' rfl) rfl rfl rfl (by rfl) nrmT | exact op_loadPtrsN (n := 9) (Ev.rfl' rfl) memT (by rfl) (by rfl) (by rfl) (by rfl) nrmT) ?_
  refine JL_1 rfl (by first | ((refine op_callK Tryd.call8 (ReadRoot_ok (writeV q s)) ⟨evS, trivial⟩ memT))) ?_
  refine JL_1 rfl (op_move rfl) ?_
  refine JL_1 rfl (op_extract (Ev.rfl' rfl) rfl) ?_
  refine JL_1 rfl (op_extract (Ev.rfl' rfl) rfl) ?_
  (refine JL_n rfl (op_allocN rfl nrmT rfl) ?_; intro i16)
  refine JL_s0 (op_storeN (Ev.rfl' rfl) (Ev.rfl' rfl) cellsT replT nrmT (by rfl) (by rfl) (by rfl)) ?_
  refine JL_1 rfl (op_assign rfl) ?_
  refine JL_nil ?_
  refine JQ_then (JC_seq (JC_seq ?_))
  rw [back_root hl hv]
  refine JC_region ?_
  refine JL_1 rfl (op_move rfl) ?_
  refine JL_1 rfl (op_neq (Ev.rfl' rfl) (Ev.rfl' rfl)) ?_
  refine JL_1 rfl (op_move rfl) ?_
  (first | refine JL_i0 rfl rfl rfl (fun hg => (by have hg0 := hg; (try simp at hg); first | exact op_loadRefsN (n := 11) evG rfl rfl rfl (by rfl) nrmT | exact op_loadPtrsN (n := 11) evG memT (by rfl) (by rfl) (by rfl) (by rfl) nrmT)) ?_ | refine JL_i rfl rfl rfl (fun hp hg => (by have hpg := Bool.and_eq_true_iff.2 ⟨hp, hg⟩; have hg0 := hg; (try simp at hg); first | exact op_loadRefsN (n := 11) evG rfl rfl rfl (by rfl) nrmT | exact op_loadPtrsN (n := 11) evG memT (by rfl) (by rfl) (by rfl) (by rfl) nrmT)) ?_)
  (first | refine JL_i0 rfl rfl rfl (fun hg => (by have hg0 := hg; (try simp at hg); first | exact op_loadRefsN (n := 11) evG rfl rfl rfl (by rfl) nrmT | exact op_loadPtrsN (n := 11) evG memT (by rfl) (by rfl) (by rfl) (by rfl) nrmT)) ?_ | refine JL_i rfl rfl rfl (fun hp hg => (by have hpg := Bool.and_eq_true_iff.2 ⟨hp, hg⟩; have hg0 := hg; (try simp at hg); first | exact op_loadRefsN (n := 11) evG rfl rfl rfl (by rfl) nrmT | exact op_loadPtrsN (n := 11) evG memT (by rfl) (by rfl) (by rfl) (by rfl) nrmT)) ?_)
  (first | refine JL_i0 rfl rfl rfl (fun hg => (by have hg0 := hg; (try simp at hg); exact op_cmpA (vs := Rt.cells s) (ws := Rt.cells s) evG evG (eqRt_guard _ _ _ s s) (eqRt_neq s s))) ?_ | refine JL_i rfl rfl rfl (fun hp hg => (by have hpg := Bool.and_eq_true_iff.2 ⟨hp, hg⟩; have hg0 := hg; (try simp at hg); exact op_cmpA (vs := Rt.cells s) (ws := Rt.cells s) evG evG (eqRt_guard _ _ _ s s) (eqRt_neq s s))) ?_)
  refine JL_1 rfl (op_or (Ev.rfl' rfl) rfl (fun h => by first | exact SubL.rfl' | exact SubL.iteT (by first | (rw [h]; rfl) | (simp_all; done)) SubL.rfl')) ?_
  refine JL_1 rfl (op_move rfl) ?_
  (first | refine JL_i0 rfl rfl rfl (fun hg => (by have hg0 := hg; (try simp at hg); first | exact op_fieldPtr (k := 2) evG rfl rfl rfl rfl | exact op_fieldRefN (k := 2) evG rfl rfl rfl rfl nrmT)) ?_ | refine JL_i rfl rfl rfl (fun hp hg => (by have hpg := Bool.and_eq_true_iff.2 ⟨hp, hg⟩; have hg0 := hg; (try simp at hg); first | exact op_fieldPtr (k := 2) evG rfl rfl rfl rfl | exact op_fieldRefN (k := 2) evG rfl rfl rfl rfl nrmT)) ?_)
  (first | refine JL_i0 rfl rfl rfl (fun hg => (by have hg0 := hg; (try simp at hg); exact op_indexArr (k := 0) (sz := 1) evG evG rfl rfl idxT (by first | decide | omega))) ?_ | refine JL_i rfl rfl rfl (fun hp hg => (by have hpg := Bool.and_eq_true_iff.2 ⟨hp, hg⟩; have hg0 := hg; (try simp at hg); exact op_indexArr (k := 0) (sz := 1) evG evG rfl rfl idxT (by first | decide | omega))) ?_)
  (first | refine JL_i0 rfl rfl rfl (fun hg => (by have hg0 := hg; (try simp at hg); first | exact op_loadRef evG rfl rfl rfl | exact op_loadPtr evG memT (by rfl) (by rfl) (by rfl))) ?_ | refine JL_i rfl rfl rfl (fun hp hg => (by have hpg := Bool.and_eq_true_iff.2 ⟨hp, hg⟩; have hg0 := hg; (try simp at hg); first | exact op_loadRef evG rfl rfl rfl | exact op_loadPtr evG memT (by rfl) (by rfl) (by rfl))) ?_)
  (first | refine JL_i0 rfl rfl rfl (fun hg => (by have hg0 := hg; (try simp at hg); first | exact op_fieldPtr (k := 2) evG rfl rfl rfl rfl | exact op_fieldRefN (k := 2) evG rfl rfl rfl rfl nrmT)) ?_ | refine JL_i rfl rfl rfl (fun hp hg => (by have hpg := Bool.and_eq_true_iff.2 ⟨hp, hg⟩; have hg0 := hg; (try simp at hg); first | exact op_fieldPtr (k := 2) evG rfl rfl rfl rfl | exact op_fieldRefN (k := 2) evG rfl rfl rfl rfl nrmT)) ?_)
  (first | refine JL_i0 rfl rfl rfl (fun hg => (by have hg0 := hg; (try simp at hg); exact op_indexArr (k := 0) (sz := 1) evG evG rfl rfl idxT (by first | decide | omega))) ?_ | refine JL_i rfl rfl rfl (fun hp hg => (by have hpg := Bool.and_eq_true_iff.2 ⟨hp, hg⟩; have hg0 := hg; (try simp at hg); exact op_indexArr (k := 0) (sz := 1) evG evG rfl rfl idxT (by first | decide | omega))) ?_)
  (first | refine JL_i0 rfl rfl rfl (fun hg => (by have hg0 := hg; (try simp at hg); first | exact op_loadRef evG rfl rfl rfl | exact op_loadPtr evG memT (by rfl) (by rfl) (by rfl))) ?_ | refine JL_i rfl rfl rfl (fun hp hg => (by have hpg := Bool.and_eq_true_iff.2 ⟨hp, hg⟩; have hg0 := hg; (try simp at hg); first | exact op_loadRef evG rfl rfl rfl | exact op_loadPtr evG memT (by rfl) (by rfl) (by rfl))) ?_)
  (first | refine JL_i0 rfl rfl rfl (fun hg => (by have hg0 := hg; (try simp at hg); exact op_neq evG evG)) ?_ | refine JL_i rfl rfl rfl (fun hp hg => (by have hpg := Bool.and_eq_true_iff.2 ⟨hp, hg⟩; have hg0 := hg; (try simp at hg); exact op_neq evG evG)) ?_)
  refine JL_1 rfl (op_or (Ev.rfl' rfl) rfl (fun h => by first | exact SubL.rfl' | exact SubL.iteT (by first | (rw [h]; rfl) | (simp_all; done)) SubL.rfl')) ?_
  refine JL_1 rfl (op_move rfl) ?_
  (first | refine JL_i0 rfl rfl rfl (fun hg => (by have hg0 := hg; (try simp at hg); first | exact op_fieldPtr (k := 2) evG rfl rfl rfl rfl | exact op_fieldRefN (k := 2) evG rfl rfl rfl rfl nrmT)) ?_ | refine JL_i rfl rfl rfl (fun hp hg => (by have hpg := Bool.and_eq_true_iff.2 ⟨hp, hg⟩; have hg0 := hg; (try simp at hg); first | exact op_fieldPtr (k := 2) evG rfl rfl rfl rfl | exact op_fieldRefN (k := 2) evG rfl rfl rfl rfl nrmT)) ?_)
  (first | refine JL_i0 rfl rfl rfl (fun hg => (by have hg0 := hg; (try simp at hg); exact op_indexArr (k := 4) (sz := 1) evG evG rfl rfl idxT (by first | decide | omega))) ?_ | refine JL_i rfl rfl rfl (fun hp hg => (by have hpg := Bool.and_eq_true_iff.2 ⟨hp, hg⟩; have hg0 := hg; (try simp at hg); exact op_indexArr (k := 4) (sz := 1) evG evG rfl rfl idxT (by first | decide | omega))) ?_)
  (first | refine JL_i0 rfl rfl rfl (fun hg => (by have hg0 := hg; (try simp at hg); first | exact op_loadRef evG rfl rfl rfl | exact op_loadPtr evG memT (by rfl) (by rfl) (by rfl))) ?_ | refine JL_i rfl rfl rfl (fun hp hg => (by have hpg := Bool.and_eq_true_iff.2 ⟨hp, hg⟩; have hg0 := hg; (try simp at hg); first | exact op_loadRef evG rfl rfl rfl | exact op_loadPtr evG memT (by rfl) (by rfl) (by rfl))) ?_)
  (first | refine JL_i0 rfl rfl rfl (fun hg => (by have hg0 := hg; (try simp at hg); first | exact op_fieldPtr (k := 2) evG rfl rfl rfl rfl | exact op_fieldRefN (k := 2) evG rfl rfl rfl rfl nrmT)) ?_ | refine JL_i rfl rfl rfl (fun hp hg => (by have hpg := Bool.and_eq_true_iff.2 ⟨hp, hg⟩; have hg0 := hg; (try simp at hg); first | exact op_fieldPtr (k := 2) evG rfl rfl rfl rfl | exact op_fieldRefN (k := 2) evG rfl rfl rfl rfl nrmT)) ?_)
  (first | refine JL_i0 rfl rfl rfl (fun hg => (by have hg0 := hg; (try simp at hg); exact op_indexArr (k := 4) (sz := 1) evG evG rfl rfl idxT (by first | decide | omega))) ?_ | refine JL_i rfl rfl rfl (fun hp hg => (by have hpg := Bool.and_eq_true_iff.2 ⟨hp, hg⟩; have hg0 := hg; (try simp at hg); exact op_indexArr (k := 4) (sz := 1) evG evG rfl rfl idxT (by first | decide | omega))) ?_)
  (first | refine JL_i0 rfl rfl rfl (fun hg => (by have hg0 := hg; (try simp at hg); first | exact op_loadRef evG rfl rfl rfl | exact op_loadPtr evG memT (by rfl) (by rfl) (by rfl))) ?_ | refine JL_i rfl rfl rfl (fun hp hg => (by have hpg := Bool.and_eq_true_iff.2 ⟨hp, hg⟩; have hg0 := hg; (try simp at hg); first | exact op_loadRef evG rfl rfl rfl | exact op_loadPtr evG memT (by rfl) (by rfl) (by rfl))) ?_)
  (first | refine JL_i0 rfl rfl rfl (fun hg => (by have hg0 := hg; (try simp at hg); exact op_neq evG evG)) ?_ | refine JL_i rfl rfl rfl (fun hp hg => (by have hpg := Bool.and_eq_true_iff.2 ⟨hp, hg⟩; have hg0 := hg; (try simp at hg); exact op_neq evG evG)) ?_)
  refine JL_1 rfl (op_or (Ev.rfl' rfl) rfl (fun h => by first | exact SubL.rfl' | exact SubL.iteT (by first | (rw [h]; rfl) | (simp_all; done)) SubL.rfl')) ?_
  refine JL_1 rfl (op_move rfl) ?_
  (first | refine JL_i0 rfl rfl rfl (fun hg => (by have hg0 := hg; (try simp at hg); first | exact op_fieldPtr (k := 2) evG rfl rfl rfl rfl | exact op_fieldRefN (k := 2) evG rfl rfl rfl rfl nrmT)) ?_ | refine JL_i rfl rfl rfl (fun hp hg => (by have hpg := Bool.and_eq_true_iff.2 ⟨hp, hg⟩; have hg0 := hg; (try simp at hg); first | exact op_fieldPtr (k := 2) evG rfl rfl rfl rfl | exact op_fieldRefN (k := 2) evG rfl rfl rfl rfl nrmT)) ?_)
  (first | refine JL_i0 rfl rfl rfl (fun hg => (by have hg0 := hg; (try simp at hg); exact op_indexArr (k := 5) (sz := 1) evG evG rfl rfl idxT (by first | decide | omega))) ?_ | refine JL_i rfl rfl rfl (fun hp hg => (by have hpg := Bool.and_eq_true_iff.2 ⟨hp, hg⟩; have hg0 := hg; (try simp at hg); exact op_indexArr (k := 5) (sz := 1) evG evG rfl rfl idxT (by first | decide | omega))) ?_)
  (first | refine JL_i0 rfl rfl rfl (fun hg => (by have hg0 := hg; (try simp at hg); first | exact op_loadRef evG rfl rfl rfl | exact op_loadPtr evG memT (by rfl) (by rfl) (by rfl))) ?_ | refine JL_i rfl rfl rfl (fun hp hg => (by have hpg := Bool.and_eq_true_iff.2 ⟨hp, hg⟩; have hg0 := hg; (try simp at hg); first | exact op_loadRef evG rfl rfl rfl | exact op_loadPtr evG memT (by rfl) (by rfl) (by rfl))) ?_)
  (first | refine JL_i0 rfl rfl rfl (fun hg => (by have hg0 := hg; (try simp at hg); first | exact op_fieldPtr (k := 2) evG rfl rfl rfl rfl | exact op_fieldRefN (k := 2) evG rfl rfl rfl rfl nrmT)) ?_ | refine JL_i rfl rfl rfl (fun hp hg => (by have hpg := Bool.and_eq_true_iff.2 ⟨hp, hg⟩; have hg0 := hg; (try simp at hg); first | exact op_fieldPtr (k := 2) evG rfl rfl rfl rfl | exact op_fieldRefN (k := 2) evG rfl rfl rfl rfl nrmT)) ?_)
  (first | refine JL_i0 rfl rfl rfl (fun hg => (by have hg0 := hg; (try simp at hg); exact op_indexArr (k := 5) (sz := 1) evG evG rfl rfl idxT (by first | decide | omega))) ?_ | refine JL_i rfl rfl rfl (fun hp hg => (by have hpg := Bool.and_eq_true_iff.2 ⟨hp, hg⟩; have hg0 := hg; (try simp at hg); exact op_indexArr (k := 5) (sz := 1) evG evG rfl rfl idxT (by first | decide | omega))) ?_)
  (first | refine JL_i0 rfl rfl rfl (fun hg => (by have hg0 := hg; (try simp at hg); first | exact op_loadRef evG rfl rfl rfl | exact op_loadPtr evG memT (by rfl) (by rfl) (by rfl))) ?_ | refine JL_i rfl rfl rfl (fun hp hg => (by have hpg := Bool.and_eq_true_iff.2 ⟨hp, hg⟩; have hg0 := hg; (try simp at hg); first | exact op_loadRef evG rfl rfl rfl | exact op_loadPtr evG memT (by rfl) (by rfl) (by rfl))) ?_)
  (first | refine JL_i0 rfl rfl rfl (fun hg => (by have hg0 := hg; (try simp at hg); exact op_neq evG evG)) ?_ | refine JL_i rfl rfl rfl (fun hp hg => (by have hpg := Bool.and_eq_true_iff.2 ⟨hp, hg⟩; have hg0 := hg; (try simp at hg); exact op_neq evG evG)) ?_)
  refine JL_1 rfl (op_or (Ev.rfl' rfl) rfl (fun h => by first | exact SubL.rfl' | exact SubL.iteT (by first | (rw [h]; rfl) | (simp_all; done)) SubL.rfl')) ?_
  refine JL_1 rfl (op_move rfl) ?_
  (first | refine JL_i0 rfl rfl rfl (fun hg => (by have hg0 := hg; (try simp at hg); first | exact op_fieldPtr (k := 2) evG rfl rfl rfl rfl | exact op_fieldRefN (k := 2) evG rfl rfl rfl rfl nrmT)) ?_ | refine JL_i rfl rfl rfl (fun hp hg => (by have hpg := Bool.and_eq_true_iff.2 ⟨hp, hg⟩; have hg0 := hg; (try simp at hg); first | exact op_fieldPtr (k := 2) evG rfl rfl rfl rfl | exact op_fieldRefN (k := 2) evG rfl rfl rfl rfl nrmT)) ?_)
  (first | refine JL_i0 rfl rfl rfl (fun hg => (by have hg0 := hg; (try simp at hg); exact op_indexArr (k := 6) (sz := 1) evG evG rfl rfl idxT (by first | decide | omega))) ?_ | refine JL_i rfl rfl rfl (fun hp hg => (by have hpg := Bool.and_eq_true_iff.2 ⟨hp, hg⟩; have hg0 := hg; (try simp at hg); exact op_indexArr (k := 6) (sz := 1) evG evG rfl rfl idxT (by first | decide | omega))) ?_)
  (first | refine JL_i0 rfl rfl rfl (fun hg => (by have hg0 := hg; (try simp at hg); first | exact op_loadRef evG rfl rfl rfl | exact op_loadPtr evG memT (by rfl) (by rfl) (by rfl))) ?_ | refine JL_i rfl rfl rfl (fun hp hg => (by have hpg := Bool.and_eq_true_iff.2 ⟨hp, hg⟩; have hg0 := hg; (try simp at hg); first | exact op_loadRef evG rfl rfl rfl | exact op_loadPtr evG memT (by rfl) (by rfl) (by rfl))) ?_)
  (first | refine JL_i0 rfl rfl rfl (fun hg => (by have hg0 := hg; (try simp at hg); first | exact op_fieldPtr (k := 2) evG rfl rfl rfl rfl | exact op_fieldRefN (k := 2) evG rfl rfl rfl rfl nrmT)) ?_ | refine JL_i rfl rfl rfl (fun hp hg => (by have hpg := Bool.and_eq_true_iff.2 ⟨hp, hg⟩; have hg0 := hg; (try simp at hg); first | exact op_fieldPtr (k := 2) evG rfl rfl rfl rfl | exact op_fieldRefN (k := 2) evG rfl rfl rfl rfl nrmT)) ?_)
  (first | refine JL_i0 rfl rfl rfl (fun hg => (by have hg0 := hg; (try simp at hg); exact op_indexArr (k := 6) (sz := 1) evG evG rfl rfl idxT (by first | decide | omega))) ?_ | refine JL_i rfl rfl rfl (fun hp hg => (by have hpg := Bool.and_eq_true_iff.2 ⟨hp, hg⟩; have hg0 := hg; (try simp at hg); exact op_indexArr (k := 6) (sz := 1) evG evG rfl rfl idxT (by first | decide | omega))) ?_)
  (first | refine JL_i0 rfl rfl rfl (fun hg => (by have hg0 := hg; (try simp at hg); first | exact op_loadRef evG rfl rfl rfl | exact op_loadPtr evG memT (by rfl) (by rfl) (by rfl))) ?_ | refine JL_i rfl rfl rfl (fun hp hg => (by have hpg := Bool.and_eq_true_iff.2 ⟨hp, hg⟩; have hg0 := hg; (try simp at hg); first | exact op_loadRef evG rfl rfl rfl | exact op_loadPtr evG memT (by rfl) (by rfl) (by rfl))) ?_)
  (first | refine JL_i0 rfl rfl rfl (fun hg => (by have hg0 := hg; (try simp at hg); exact op_neq evG evG)) ?_ | refine JL_i rfl rfl rfl (fun hp hg => (by have hpg := Bool.and_eq_true_iff.2 ⟨hp, hg⟩; have hg0 := hg; (try simp at hg); exact op_neq evG evG)) ?_)
  refine JL_1 rfl (op_or (Ev.rfl' rfl) rfl (fun h => by first | exact SubL.rfl' | exact SubL.iteT (by first | (rw [h]; rfl) | (simp_all; done)) SubL.rfl')) ?_
  refine JL_nil ?_
  refine JQ_then ?_
  refine JC_cond (Ev.rfl' rfl) (fun h20 => ?_) (fun h20 => ?_)
  · exfalso; simp [writeV, writeK] at h20
  clear h20
  obtain ⟨b, hb⟩ : ∃ b : Nat, n.tdiv 24 % 64 = b := ⟨(n.tdiv 24 % 64).toNat, by omega⟩
  obtain ⟨j, hj⟩ : ∃ j : Nat, 1 + n.tdiv 8 % 3 = j := ⟨(1 + n.tdiv 8 % 3).toNat, by omega⟩
  have hj7 : j < 7 := by omega
  obtain ⟨dx, hdx⟩ := data_cell (writeV q s) hj7
  have hcl : (tPg.cells (writeV q s)).length = 9 := rfl
  have hof : 0 + 2 + j * 1 = 2 + j := by omega
  refine JC_skip (JQ_then (JC_seq ?_))
  refine JC_dr rfl (by kernel_rfl) ?_
  refine JD_stretch 15 (by kernel_rfl) ?_
  refine JW_1 (op_move rfl) ?_
  refine JW_1 (op_quo (Ev.rfl' rfl) (Ev.rfl' rfl) (by omega) wrapT) ?_
  refine JW_1 (by first | ((refine op_call Tryd.call6 (PickH_ok _ _ ?_ ?_) ⟨evS, ⟨evS, trivial⟩⟩); all_goals (first | omega))) ?_
  refine JW_1 (op_add (Ev.rfl' rfl) (Ev.rfl' rfl) wrapT) ?_
  refine JW_1 (by first | exact op_fieldPtr (k := 2) (Ev.rfl' rfl) rfl rfl rfl rfl | exact op_fieldRefN (k := 2) (Ev.rfl' rfl) rfl rfl rfl rfl nrmT) ?_
  refine JW_1 (op_indexArr (k := j) (sz := 1) (Ev.rfl' rfl) (Ev.rfl' rfl) rfl rfl idxT (by first | decide | omega)) ?_
  refine JW_1 (op_loadPtr (Ev.rfl' rfl) (As := tPg.cells (writeV q s)) memT rfl rfl (by rw [hof]; exact hdx)) ?_
  refine JW_1 (op_move rfl) ?_
  refine JW_1 (op_quo (Ev.rfl' rfl) (Ev.rfl' rfl) (by omega) wrapT) ?_
  refine JW_1 (by first | ((refine op_call Tryd.call6 (PickH_ok _ _ ?_ ?_) ⟨evS, ⟨evS, trivial⟩⟩); all_goals (first | omega))) ?_
  refine JW_1 (op_conv (Ev.rfl' rfl) rfl rfl convT) ?_
  refine JW_1 (by first | exact op_shlU (k := b) ev64 (Ev.rfl' rfl) (by first | omega | exact UV_nonneg _) idxT | exact op_shl (Ev.rfl' rfl) (Ev.rfl' rfl) (by first | omega | exact UV_nonneg _) rfl) ?_
  refine JW_1 (by first | exact op_bits ev64 ev64 (by simp) (xor_u64 _ _) | exact op_bits (Ev.rfl' rfl) (Ev.rfl' rfl) (by simp) rfl) ?_
  refine JW_1 (by first | exact op_fieldPtr (k := 2) (Ev.rfl' rfl) rfl rfl rfl rfl | exact op_fieldRefN (k := 2) (Ev.rfl' rfl) rfl rfl rfl rfl nrmT) ?_
  refine JW_1 (op_indexArr (k := j) (sz := 1) (Ev.rfl' rfl) (Ev.rfl' rfl) rfl rfl idxT (by first | decide | omega)) ?_
  refine ⟨rfl, ?_⟩
  refine JD_s0 (by kernel_rfl) rfl (op_storeA (n := 1) (Rs := tPg.cells ((writeV q s).setd j (dx ^^^ 1#64 <<< b))) (Ev.rfl' rfl) (Ev.rfl' rfl) cellsT replT (by rw [hof]; exact (setd_cells (writeV q s) _ hj7).symm) (by rfl) (by rfl) (by first | (simp; done) | (simp; omega) | omega)) ?_
  refine JD_end ?_
  refine JQ_then (JC_seq ?_)
  generalize (writeV q s).setd j (dx ^^^ 1#64 <<< b) = q2
  refine JC_region ?_
  refine JL_1 rfl (by first | exact op_loadRefsN (n := 9) (Ev.rfl' rfl) rfl rfl rfl (by rfl) nrmT | exact op_loadPtrsN (n := 9) (Ev.rfl' rfl) memT (by rfl) (by rfl) (by rfl) (by rfl) nrmT) ?_
  refine JL_1 rfl (by first | ((refine op_callK Tryd.call8 (ReadRoot_ok q2) ⟨evS, trivial⟩ memT))) ?_
  refine JL_1 rfl (op_move rfl) ?_
  refine JL_1 rfl (op_extract (Ev.rfl' rfl) rfl) ?_
  refine JL_1 rfl (op_extract (Ev.rfl' rfl) rfl) ?_
  refine JL_s0 (op_storeN (Ev.rfl' rfl) (Ev.rfl' rfl) cellsT replT nrmT (by rfl) (by rfl) (by rfl)) ?_
  refine JL_1 rfl (op_assign rfl) ?_
  refine JL_nil ?_
  refine JQ_then (JC_seq ?_)
  refine JC_region ?_
  refine JL_1 rfl (by first | exact op_loadRefsN (n := 9) (Ev.rfl' rfl) rfl rfl rfl (by rfl) nrmT | exact op_loadPtrsN (n := 9) (Ev.rfl' rfl) memT (by rfl) (by rfl) (by rfl) (by rfl) nrmT) ?_
  refine JL_1 rfl (op_call Tryd.call9 (ReadRootR_ok q2) ⟨evS, trivial⟩) ?_
  refine JL_1 rfl (op_move rfl) ?_
  refine JL_1 rfl (op_extract (Ev.rfl' rfl) rfl) ?_
  refine JL_1 rfl (op_extract (Ev.rfl' rfl) rfl) ?_
  refine JL_s0 (op_storeN (Ev.rfl' rfl) (Ev.rfl' rfl) cellsT replT nrmT (by rfl) (by rfl) (by rfl)) ?_
  refine JL_1 rfl (op_assign rfl) ?_
  refine JL_nil ?_
  refine JQ_then (JC_seq ?_)
  refine JC_dr rfl (by kernel_rfl) ?_
  refine JD_stretch 10 (by kernel_rfl) ?_
  refine JW_1 (by first | exact op_loadRefsN (n := 11) (Ev.rfl' rfl) rfl rfl rfl (by rfl) nrmT | exact op_loadPtrsN (n := 11) (Ev.rfl' rfl) memT (by rfl) (by rfl) (by rfl) (by rfl) nrmT) ?_
  refine JW_1 (op_call Tryd.call12 (root_ok2 _) ⟨evS, trivial⟩) ?_
  refine JW_1 (by first | exact op_loadRefsN (n := 11) (Ev.rfl' rfl) rfl rfl rfl (by rfl) nrmT | exact op_loadPtrsN (n := 11) (Ev.rfl' rfl) memT (by rfl) (by rfl) (by rfl) (by rfl) nrmT) ?_
  refine JW_1 (op_cmpA (vs := Rt.cells (readR q2).1) (ws := Rt.cells (readR q2).1) (Ev.rfl' rfl) (Ev.rfl' rfl) (eqRtR_guard _ _ _ (readR q2).1 (readR q2).1) (eqRtR_eql (readR q2).1 (readR q2).1)) ?_
  refine JW_1 (op_move rfl) ?_
  (first | refine JW_i0 rfl rfl (fun hg => (by have hg0 := hg; (try simp at hg); first | exact op_moveE (Ev.sub rfl (SubL.iteT (by first | assumption | (simp; done) | (simp; omega) | (simp_all; done)) SubL.rfl')) | exact op_moveE (Ev.rfl' rfl))) ?_ | refine JW_i rfl rfl (fun hp hg => (by have hpg := Bool.and_eq_true_iff.2 ⟨hp, hg⟩; have hg0 := hg; (try simp at hg); first | exact op_moveE (Ev.sub rfl (SubL.iteT (by first | assumption | (simp; done) | (simp; omega) | (simp_all; done)) SubL.rfl')) | exact op_moveE (Ev.rfl' rfl))) ?_)
  (first | refine JW_i0 rfl rfl (fun hg => (by have hg0 := hg; (try simp at hg); first | exact op_moveE (Ev.sub rfl (SubL.iteT (by first | assumption | (simp; done) | (simp; omega) | (simp_all; done)) SubL.rfl')) | exact op_moveE (Ev.rfl' rfl))) ?_ | refine JW_i rfl rfl (fun hp hg => (by have hpg := Bool.and_eq_true_iff.2 ⟨hp, hg⟩; have hg0 := hg; (try simp at hg); first | exact op_moveE (Ev.sub rfl (SubL.iteT (by first | assumption | (simp; done) | (simp; omega) | (simp_all; done)) SubL.rfl')) | exact op_moveE (Ev.rfl' rfl))) ?_)
  (first | refine JW_i0 rfl rfl (fun hg => (by have hg0 := hg; (try simp at hg); exact op_eql evG evG)) ?_ | refine JW_i rfl rfl (fun hp hg => (by have hpg := Bool.and_eq_true_iff.2 ⟨hp, hg⟩; have hg0 := hg; (try simp at hg); exact op_eql evG evG)) ?_)
  refine JW_1 (op_and (Ev.rfl' rfl) rfl (fun h => by first | exact SubL.rfl' | exact SubL.iteT (by first | (rw [h]; rfl) | (simp_all; done)) SubL.rfl')) ?_
  refine JW_1 (op_assign rfl) ?_
  refine ⟨rfl, ?_⟩
  refine JD_end ?_
  refine JQ_then (JC_ret ?_)
  refine JQ_ret1 Tryd.results3 rfl () (SubL.eq ?_) (List.nil_sublist _)
  simp
end Go.Proofs.YtmcaomdjlepapaaDoor

/- Plain laws of buckets. Own work. -/
namespace Go.Proofs.YtmcaomdjlepapaaDoor
open Go.RowKit
set_option linter.unusedVariables false
set_option linter.unusedSimpArgs false
set_option maxRecDepth 100000
@[reducible] def hashV (x : BitVec 32) : BitVec 32 := (x * 2654435769#32) ^^^ (x * 2654435769#32) >>> 16
def lowV (h : BitVec 32) (d : Int) : BitVec 32 := h &&& (BitVec.ofInt 32 1 <<< d.toNat - BitVec.ofInt 32 1)
theorem low_nat (h : BitVec 32) {d : Int} (hd : 0 ≤ d ∧ d ≤ 16) : (lowV h d).toNat = h.toNat % 2 ^ d.toNat := by
  unfold lowV
  have h1 : (2 : Nat) ^ d.toNat ≤ 2 ^ 16 := Nat.pow_le_pow_right (by omega) (by omega)
  have h2 : 0 < (2 : Nat) ^ d.toNat := Nat.pow_pos (by omega)
  have e : (BitVec.ofInt 32 1 <<< d.toNat - BitVec.ofInt 32 1 : BitVec 32).toNat = 2 ^ d.toNat - 1 := by
    rw [BitVec.toNat_sub, BitVec.toNat_shiftLeft]
    show (2 ^ 32 - 1 + 1 <<< d.toNat % 2 ^ 32) % 2 ^ 32 = 2 ^ d.toNat - 1
    rw [Nat.shiftLeft_eq, Nat.one_mul]
    generalize (2 : Nat) ^ d.toNat = m at *
    have h1' : m ≤ 65536 := h1
    rw [Nat.mod_eq_of_lt (show m < 2 ^ 32 by omega)]
    omega
  rw [BitVec.toNat_and, e, Nat.and_two_pow_sub_one_eq_mod]
theorem low_self (h : BitVec 32) {d : Int} (hd : 0 ≤ d ∧ d ≤ 16) : h = lowV h d ↔ h.toNat < 2 ^ d.toNat := by
  have h2 : 0 < (2 : Nat) ^ d.toNat := Nat.pow_pos (by omega)
  have e := low_nat h hd
  constructor
  · intro h1
    rw [h1, e]
    exact Nat.mod_lt _ h2
  · intro h1
    apply BitVec.eq_of_toNat_eq
    rw [e, Nat.mod_eq_of_lt h1]
/-- What is wrong with a bucket's head. -/
def headX (b : Bk) : Bool := decide (b.depth < 0) || decide (b.depth > 16) || (UV b.pat != UV (lowV b.pat b.depth)) || (!fieldB b.next) || decide ((b.es.length : Int) > 5)
/-- What is wrong with an entry behind a key. -/
def entX (d : Int) (pat last : BitVec 32) (e : En) : Bool := decide (UV e.key ≤ UV last) || decide (UV e.key > 4294967294) || (!validP e.to) || !(UV (lowV (hashV e.key) d) == UV pat)
def entsB (d : Int) (pat : BitVec 32) : BitVec 32 → List En → Bool
  | _, [] => true
  | last, e :: es => !entX d pat last e && entsB d pat e.key es
def validB (b : Bk) : Bool := !headX b && entsB b.depth b.pat 0#32 b.es
theorem head_ok {b : Bk} (h : headX b = false) : (0 ≤ b.depth ∧ b.depth ≤ 16) ∧ b.pat.toNat < 2 ^ b.depth.toNat ∧ fieldB b.next = true ∧ b.es.length ≤ 5 := by
  unfold headX at h
  simp only [Bool.or_eq_false_iff, decide_eq_false_iff_not, bne_eq_false_iff_eq, Bool.not_eq_false'] at h
  obtain ⟨⟨⟨⟨h1, h2⟩, h3⟩, h4⟩, h5⟩ := h
  have hd : 0 ≤ b.depth ∧ b.depth ≤ 16 := by omega
  refine ⟨hd, ?_, h4, by omega⟩
  rw [← low_self _ hd]
  apply BitVec.eq_of_toNat_eq
  unfold UV at h3
  omega
theorem ents_drop {d : Int} {pat last : BitVec 32} {es : List En} {k : Nat} {e : En} (h : es[k]? = some e) : entsB d pat last (es.drop k) = (!entX d pat last e && entsB d pat e.key (es.drop (k + 1))) := by
  have hl : k < es.length := (List.getElem?_eq_some_iff.1 h).1
  rw [List.drop_eq_getElem_cons hl]
  have : es[k] = e := by rw [List.getElem?_eq_getElem hl] at h; exact Option.some.inj h
  rw [this]; rfl
theorem ents_all {d : Int} {pat : BitVec 32} : ∀ {last : BitVec 32} {es : List En}, entsB d pat last es = true → ∀ e ∈ es, validP e.to = true
  | _, [], _, e, he => by cases he
  | last, x :: es, h, e, he => by
    have h' : (!entX d pat last x && entsB d pat x.key es) = true := h
    simp only [Bool.and_eq_true, Bool.not_eq_true'] at h'
    rcases List.mem_cons.1 he with rfl | he
    · have h1 := h'.1
      unfold entX at h1
      simp only [Bool.or_eq_false_iff] at h1
      simpa using h1.1.2
    · exact ents_all h'.2 e he
def enW (e : En) : BitVec 64 := e.key.setWidth 64 <<< 32 ||| (packP e.to).setWidth 64
def unE (w : BitVec 64) : En := ⟨(w >>> 32).setWidth 32, unpackP (w.setWidth 32)⟩
theorem en_pack (e : En) : enW e = packW (packP e.to) (e.key.setWidth 64) := by
  unfold enW packW
  exact BitVec.or_comm _ _
theorem un_en {e : En} (h : validP e.to = true) : unE (enW e) = e := by
  rw [en_pack]
  unfold unE
  rw [pack_high, setW_setW, pack_low, unpack_pack h]
theorem low_w32 (w : BitVec 64) : w.setWidth 32 = w32 w 0 := by unfold w32; rw [BitVec.ushiftRight_zero]
theorem en_un {w : BitVec 64} (h : validP (unE w).to = true) : enW (unE w) = w := by
  rw [en_pack]
  unfold unE at h ⊢
  dsimp only at h ⊢
  rw [pack_unpack h, low_w32]
  exact pack_w32 w
def wordE (es : List En) (i : Nat) : BitVec 64 := match es[i]? with
  | some e => enW e
  | none => 0#64
theorem wordE_take (es : List En) (k i : Nat) : wordE (es.take k) i = if i < k then wordE es i else 0#64 := by
  unfold wordE
  rw [List.getElem?_take]
  split <;> simp_all
def auxB (b : Bk) : BitVec 32 := BitVec.ofInt 32 b.depth ||| BitVec.ofInt 32 (b.es.length : Int) <<< 8 ||| b.pat <<< 16
def fillE (p : Pg) (b : Bk) (xs : List En) : Pg := ⟨p.l, p.h, packT ⟨kindV p.d0, genV p.d0, auxB b⟩, (packP b.next).setWidth 64, wordE xs 0, wordE xs 1, wordE xs 2, wordE xs 3, wordE xs 4⟩
def fillB (p : Pg) (b : Bk) : Pg := fillE p b b.es
theorem fill_set (p : Pg) (b : Bk) {es : List En} {k : Nat} {e : En} (h : es[k]? = some e) (hk : k < 5) : (fillE p b (es.take k)).setd (2 + k) (enW e) = fillE p b (es.take (k + 1)) := by
  have hw : wordE es k = enW e := by unfold wordE; rw [h]
  match k, hk with
  | 0, _ => unfold fillE; simp only [wordE_take]; simp [Pg.setd, hw]
  | 1, _ => unfold fillE; simp only [wordE_take]; simp [Pg.setd, hw]
  | 2, _ => unfold fillE; simp only [wordE_take]; simp [Pg.setd, hw]
  | 3, _ => unfold fillE; simp only [wordE_take]; simp [Pg.setd, hw]
  | 4, _ => unfold fillE; simp only [wordE_take]; simp [Pg.setd, hw]
def dat (p : Pg) : List (BitVec 64) := [p.d0, p.d1, p.d2, p.d3, p.d4, p.d5, p.d6]
def ents (p : Pg) (n : Nat) : List En := ((dat p).drop 2 |>.take n).map unE
def cntV (a : BitVec 32) : Int := UV (a >>> 8 &&& BitVec.ofInt 32 255)
theorem cnt_in (a : BitVec 32) : 0 ≤ cntV a ∧ cntV a ≤ 255 := by
  have := UV_low 32 8 (a >>> 8) (BitVec.ofInt 32 255) rfl
  unfold cntV
  omega
def rdB (p : Pg) : Bk := ⟨UV (auxV p.d0 &&& BitVec.ofInt 32 255), auxV p.d0 >>> 16, unpackP (p.d1.setWidth 32), ents p (cntV (auxV p.d0)).toNat⟩
def readB (p : Pg) : Bk × Int := if (kindV p.d0 != 2 || decide (cntV (auxV p.d0) > 5)) then (Bk.nil, 14) else if (!okW (p.d1.setWidth 32) || !validB (rdB p) || !dataB (fillB p (rdB p)) p) then (Bk.nil, 14) else (rdB p, 0)
def writeB (p : Pg) (b : Bk) : Pg × Int := if (!(kindV p.d0 == 2) || !validB b) then (Pg.nil, 1) else (fillB p b, 0)
theorem writeB_ok {p : Pg} {b : Bk} (h : (writeB p b).2 = 0) : kindV p.d0 = 2 ∧ validB b = true ∧ writeB p b = (fillB p b, 0) := by
  unfold writeB at h ⊢
  cases hb : (!(kindV p.d0 == 2) || !validB b) with
  | true => rw [hb] at h; simp at h
  | false =>
    simp only [Bool.or_eq_false_iff] at hb
    exact ⟨by simpa using hb.1, by simpa using hb.2, by simp⟩
/-- The fields of the head. -/
theorem aux_parts {b : Bk} (hd : 0 ≤ b.depth ∧ b.depth ≤ 16) (hp : b.pat.toNat < 2 ^ b.depth.toNat) (hl : b.es.length ≤ 5) : (auxB b).toNat = b.depth.toNat + b.es.length * 256 + b.pat.toNat * 65536 := by
  have h16 : (2 : Nat) ^ b.depth.toNat ≤ 2 ^ 16 := Nat.pow_le_pow_right (by omega) (by omega)
  have e1 : (BitVec.ofInt 32 b.depth).toNat = b.depth.toNat := by rw [BitVec.toNat_ofInt]; omega
  have e2 : (BitVec.ofInt 32 (b.es.length : Int)).toNat = b.es.length := by rw [BitVec.toNat_ofInt]; omega
  have or32 : ∀ (x y : BitVec 32) (n : Nat), x.toNat < 2 ^ n → y.toNat * 2 ^ n < 2 ^ 32 → (x ||| y <<< n).toNat = x.toNat + y.toNat * 2 ^ n := fun x y n ha hb => by
    rw [BitVec.toNat_or, BitVec.toNat_shiftLeft, Nat.shiftLeft_eq, Nat.mod_eq_of_lt hb, Nat.mul_comm, Nat.or_comm, ← Nat.two_pow_add_eq_or_of_lt ha, Nat.add_comm]
  have g1 := or32 (BitVec.ofInt 32 b.depth) (BitVec.ofInt 32 (b.es.length : Int)) 8 (by omega) (by omega)
  have g2 := or32 (BitVec.ofInt 32 b.depth ||| BitVec.ofInt 32 (b.es.length : Int) <<< 8) b.pat 16 (by omega) (by omega)
  unfold auxB
  rw [g2, g1, e1, e2]
theorem aux_back {b : Bk} (hd : 0 ≤ b.depth ∧ b.depth ≤ 16) (hp : b.pat.toNat < 2 ^ b.depth.toNat) (hl : b.es.length ≤ 5) : UV (auxB b &&& BitVec.ofInt 32 255) = b.depth ∧ auxB b >>> 16 = b.pat ∧ cntV (auxB b) = b.es.length := by
  have h := aux_parts hd hp hl
  have h16 : (2 : Nat) ^ b.depth.toNat ≤ 2 ^ 16 := Nat.pow_le_pow_right (by omega) (by omega)
  refine ⟨?_, ?_, ?_⟩
  · have := UV_low 32 8 (auxB b) (BitVec.ofInt 32 255) rfl
    rw [this]
    unfold UV
    omega
  · apply BitVec.eq_of_toNat_eq
    rw [BitVec.toNat_ushiftRight, Nat.shiftRight_eq_div_pow]
    omega
  · unfold cntV
    have h1 := UV_low 32 8 (auxB b >>> 8) (BitVec.ofInt 32 255) rfl
    have h2 := UV_shr 32 (auxB b) 8
    rw [h1, h2]
    unfold UV
    omega
theorem valid_ok {b : Bk} (h : validB b = true) : ((0 ≤ b.depth ∧ b.depth ≤ 16) ∧ b.pat.toNat < 2 ^ b.depth.toNat ∧ fieldB b.next = true ∧ b.es.length ≤ 5) ∧ ∀ e ∈ b.es, validP e.to = true := by
  unfold validB at h
  simp only [Bool.and_eq_true, Bool.not_eq_true'] at h
  exact ⟨head_ok h.1, ents_all h.2⟩
theorem data_iff {p q : Pg} : dataB p q = true ↔ p.d0 = q.d0 ∧ p.d1 = q.d1 ∧ p.d2 = q.d2 ∧ p.d3 = q.d3 ∧ p.d4 = q.d4 ∧ p.d5 = q.d5 ∧ p.d6 = q.d6 := by
  unfold dataB
  simp only [Bool.and_eq_true, beq_iff_eq]
theorem ents_len (p : Pg) {n : Nat} (h : n ≤ 5) : (ents p n).length = n := by
  simp [ents, dat]
  omega
theorem ents_back {es : List En} (hl : es.length ≤ 5) (hv : ∀ e ∈ es, validP e.to = true) : (([wordE es 0, wordE es 1, wordE es 2, wordE es 3, wordE es 4]).take es.length).map unE = es := by
  have hu : ∀ e ∈ es, unE (enW e) = e := fun e he => un_en (hv e he)
  match es, hl with
  | [], _ => rfl
  | [a], _ => simp [wordE, hu a (by simp)]
  | [a, b], _ => simp [wordE, hu a (by simp), hu b (by simp)]
  | [a, b, c], _ => simp [wordE, hu a (by simp), hu b (by simp), hu c (by simp)]
  | [a, b, c, d], _ => simp [wordE, hu a (by simp), hu b (by simp), hu c (by simp), hu d (by simp)]
  | [a, b, c, d, e], _ => simp [wordE, hu a (by simp), hu b (by simp), hu c (by simp), hu d (by simp), hu e (by simp)]
theorem back_bucket {p : Pg} {b : Bk} (hk : kindV p.d0 = 2) (h : validB b = true) : readB (fillB p b) = (b, 0) := by
  obtain ⟨⟨hd, hp, hf, hl⟩, hv⟩ := valid_ok h
  obtain ⟨a1, a2, a3⟩ := aux_back hd hp hl
  obtain ⟨f1, f2⟩ := field_back hf
  have d0 : (fillB p b).d0 = packT ⟨kindV p.d0, genV p.d0, auxB b⟩ := rfl
  have d1 : (fillB p b).d1.setWidth 32 = packP b.next := setW_setW _
  have hx : auxV (fillB p b).d0 = auxB b := by rw [d0, tag_aux]
  have hr : rdB (fillB p b) = b := by
    unfold rdB
    rw [hx, a1, a2, a3, d1, f1]
    have e : ents (fillB p b) ((b.es.length : Int)).toNat = b.es := by
      rw [Int.toNat_natCast]
      exact ents_back hl hv
    rw [e]
  have hk2 : kindV (fillB p b).d0 = 2 := by rw [d0, tag_kind, hk]
  have hdat : dataB (fillB (fillB p b) b) (fillB p b) = true := by
    rw [data_iff]
    refine ⟨?_, rfl, rfl, rfl, rfl, rfl, rfl⟩
    show packT ⟨kindV (fillB p b).d0, genV (fillB p b).d0, auxB b⟩ = _
    rw [d0, tag_kind, tag_gen]
  unfold readB
  rw [hx, a3, hk2, hr, d1, f2, h, hdat, if_neg, if_neg]
  · simp
  · simp; omega
def datAt (p : Pg) (i : Nat) : BitVec 64 := match i with
  | 0 => p.d2
  | 1 => p.d3
  | 2 => p.d4
  | 3 => p.d5
  | _ => p.d6
theorem dat_get (p : Pg) {i : Nat} (h : i < 5) : (dat p)[2 + i]? = some (datAt p i) := by
  match i, h with
  | 0, _ => rfl
  | 1, _ => rfl
  | 2, _ => rfl
  | 3, _ => rfl
  | 4, _ => rfl
theorem ents_get (p : Pg) {n i : Nat} (h : i < n) (h5 : i < 5) : (ents p n)[i]? = some (unE (datAt p i)) := by
  unfold ents
  rw [List.getElem?_map, List.getElem?_take, if_pos h, List.getElem?_drop, dat_get p h5]
  rfl
theorem ents_none (p : Pg) {n i : Nat} (h : n ≤ i) : (ents p n)[i]? = none := by
  unfold ents
  rw [List.getElem?_map, List.getElem?_take, if_neg (by omega)]
  rfl
theorem ents_succ (p : Pg) {k : Nat} (h : k < 5) : ents p k ++ [unE (datAt p k)] = ents p (k + 1) := by
  apply List.ext_getElem?
  intro i
  rcases Nat.lt_trichotomy i k with h1 | h1 | h1
  · rw [List.getElem?_append_left (by rw [ents_len p (by omega)]; exact h1), ents_get p h1 (by omega), ents_get p (show i < k + 1 by omega) (by omega)]
  · subst h1
    rw [List.getElem?_append_right (by rw [ents_len p (by omega)]; omega), ents_len p (by omega), Nat.sub_self, ents_get p (show i < i + 1 by omega) h]
    rfl
  · rw [List.getElem?_append_right (by rw [ents_len p (by omega)]; omega), ents_len p (by omega), ents_none p (show k + 1 ≤ i by omega)]
    have : i - k = (i - k - 1) + 1 := by omega
    rw [this]
    rfl
theorem word_ents {p : Pg} {n : Nat} (hv : ∀ e ∈ ents p n, validP e.to = true) {i : Nat} (h : i < 5) : wordE (ents p n) i = if i < n then datAt p i else 0#64 := by
  unfold wordE
  by_cases hi : i < n
  · have g := ents_get p hi h
    rw [g, if_pos hi]
    exact en_un (hv _ (List.mem_of_getElem? g))
  · rw [ents_none p (by omega), if_neg hi]
theorem data_rd {p : Pg} (hn : cntV (auxV p.d0) ≤ 5) (ho : okW (p.d1.setWidth 32) = true) (hv : validB (rdB p) = true) : dataB (fillB p (rdB p)) p = true ↔ UV p.d1 < 4294967296 ∧ ∀ i : Nat, cntV (auxV p.d0) ≤ i → i < 5 → datAt p i = 0#64 := by
  obtain ⟨⟨hd, hp, hf, hl⟩, hve⟩ := valid_ok hv
  have hc := cnt_in (auxV p.d0)
  obtain ⟨n, hnn⟩ : ∃ n : Nat, cntV (auxV p.d0) = n := ⟨(cntV (auxV p.d0)).toNat, by omega⟩
  have hes : (rdB p).es = ents p n := by show ents p (cntV (auxV p.d0)).toNat = _; rw [hnn, Int.toNat_natCast]
  have hw : ∀ i, i < 5 → wordE (ents p n) i = if i < n then datAt p i else 0#64 := fun i hi => word_ents (by rw [← hes]; exact hve) hi
  have e0 : (fillB p (rdB p)).d0 = p.d0 := by
    show packT ⟨kindV p.d0, genV p.d0, auxB (rdB p)⟩ = p.d0
    rw [tag_same]
    apply BitVec.eq_of_toNat_eq
    have g := aux_parts hd hp hl
    rw [hes, ents_len p (by omega)] at g
    rw [g]
    have q1 : (rdB p).depth = UV (auxV p.d0) % 256 := UV_low 32 8 (auxV p.d0) (BitVec.ofInt 32 255) rfl
    have q2 : (rdB p).pat.toNat = (auxV p.d0).toNat / 65536 := by
      show (auxV p.d0 >>> 16).toNat = _
      rw [BitVec.toNat_ushiftRight, Nat.shiftRight_eq_div_pow]
    have q3 : cntV (auxV p.d0) = UV (auxV p.d0) / 256 % 256 := by
      unfold cntV
      rw [UV_low 32 8 (auxV p.d0 >>> 8) (BitVec.ofInt 32 255) rfl, UV_shr 32 (auxV p.d0) 8]
      rfl
    unfold UV at q1 q3
    rw [q2]
    omega
  have e1 : (fillB p (rdB p)).d1 = (p.d1.setWidth 32).setWidth 64 := by
    show (packP (unpackP (p.d1.setWidth 32))).setWidth 64 = _
    rw [pack_un ho]
  have e1' : (fillB p (rdB p)).d1 = p.d1 ↔ UV p.d1 < 4294967296 := by
    rw [e1]
    have hn : ((p.d1.setWidth 32).setWidth 64).toNat = p.d1.toNat % 4294967296 := by
      simp only [BitVec.toNat_setWidth]
      omega
    unfold UV
    constructor
    · intro h
      rw [h] at hn
      omega
    · intro h
      apply BitVec.eq_of_toNat_eq
      omega
  have g0 : (fillB p (rdB p)).d2 = wordE (ents p n) 0 := by rw [← hes]; rfl
  have g1 : (fillB p (rdB p)).d3 = wordE (ents p n) 1 := by rw [← hes]; rfl
  have g2 : (fillB p (rdB p)).d4 = wordE (ents p n) 2 := by rw [← hes]; rfl
  have g3 : (fillB p (rdB p)).d5 = wordE (ents p n) 3 := by rw [← hes]; rfl
  have g4 : (fillB p (rdB p)).d6 = wordE (ents p n) 4 := by rw [← hes]; rfl
  have hz : ∀ i, i < 5 → ((if i < n then datAt p i else 0#64) = datAt p i ↔ (n ≤ i → datAt p i = 0#64)) := fun i hi => by
    by_cases h : i < n
    · rw [if_pos h]
      exact ⟨fun _ h2 => absurd h2 (by omega), fun _ => rfl⟩
    · rw [if_neg h]
      exact ⟨fun h2 _ => h2.symm, fun h2 => (h2 (by omega)).symm⟩
  rw [data_iff, e1', g0, g1, g2, g3, g4, hw 0 (by omega), hw 1 (by omega), hw 2 (by omega), hw 3 (by omega), hw 4 (by omega), hnn]
  constructor
  · rintro ⟨_, h1, h2, h3, h4, h5, h6⟩
    refine ⟨h1, fun i hi hi5 => ?_⟩
    have hi' : n ≤ i := by omega
    match i, hi5 with
    | 0, _ => exact (hz 0 (by omega)).1 h2 hi'
    | 1, _ => exact (hz 1 (by omega)).1 h3 hi'
    | 2, _ => exact (hz 2 (by omega)).1 h4 hi'
    | 3, _ => exact (hz 3 (by omega)).1 h5 hi'
    | 4, _ => exact (hz 4 (by omega)).1 h6 hi'
  · rintro ⟨h1, h2⟩
    have hq : ∀ i, i < 5 → (n ≤ i → datAt p i = 0#64) := fun i hi hn => h2 i (by omega) hi
    exact ⟨e0, h1, (hz 0 (by omega)).2 (hq 0 (by omega)), (hz 1 (by omega)).2 (hq 1 (by omega)), (hz 2 (by omega)).2 (hq 2 (by omega)), (hz 3 (by omega)).2 (hq 3 (by omega)), (hz 4 (by omega)).2 (hq 4 (by omega))⟩
section
variable {p : Pg}
theorem readB_head (h : (kindV p.d0 != 2 || decide (cntV (auxV p.d0) > 5)) = true) : readB p = (Bk.nil, 14) := by unfold readB; rw [if_pos h]
theorem readB_bad (h : (kindV p.d0 != 2 || decide (cntV (auxV p.d0) > 5)) = false) (h1 : (!okW (p.d1.setWidth 32) || !validB (rdB p) || !dataB (fillB p (rdB p)) p) = true) : readB p = (Bk.nil, 14) := by unfold readB; rw [if_neg (by rw [h]; simp), if_pos h1]
theorem readB_0 (h : (kindV p.d0 != 2 || decide (cntV (auxV p.d0) > 5)) = false) (h1 : (!okW (p.d1.setWidth 32) || !validB (rdB p) || !dataB (fillB p (rdB p)) p) = false) : readB p = (rdB p, 0) := by unfold readB; rw [if_neg (by rw [h]; simp), if_neg (by rw [h1]; simp)]
theorem readB_no (h : ¬ (kindV p.d0 = 2 ∧ cntV (auxV p.d0) ≤ 5 ∧ okW (p.d1.setWidth 32) = true ∧ validB (rdB p) = true ∧ dataB (fillB p (rdB p)) p = true)) : readB p = (Bk.nil, 14) := by
  cases h0 : (kindV p.d0 != 2 || decide (cntV (auxV p.d0) > 5)) with
  | true => exact readB_head h0
  | false =>
    refine readB_bad h0 ?_
    simp only [Bool.or_eq_false_iff, bne_eq_false_iff_eq, decide_eq_false_iff_not] at h0
    cases h1 : okW (p.d1.setWidth 32)
    · rfl
    · cases h2 : validB (rdB p)
      · rfl
      · cases h3 : dataB (fillB p (rdB p)) p
        · rfl
        · exact absurd ⟨h0.1, by omega, h1, h2, h3⟩ h
theorem readB_yes (h1 : kindV p.d0 = 2) (h2 : cntV (auxV p.d0) ≤ 5) (h3 : okW (p.d1.setWidth 32) = true) (h4 : validB (rdB p) = true) (h5 : dataB (fillB p (rdB p)) p = true) : readB p = (rdB p, 0) := by
  refine readB_0 ?_ (by rw [h3, h4, h5]; rfl)
  rw [h1]
  simp
  omega
end
end Go.Proofs.YtmcaomdjlepapaaDoor

/- Rules: an aggregate field of a value; a function value that leans on a package variable. Own work. -/
namespace Go.Proofs.YtmcaomdjlepapaaDoor
open Go.RowKit
set_option linter.unusedVariables false
set_option linter.unusedSimpArgs false
section
variable {P : Program} {c : Ctx} {A : Nat → Option VP} {L : List Item} {d : Option Tmp} {ty : TypeId} {pos : String} {af : Array Edge} {g : Option (Nat × Bool)}
theorem op_fieldVA {s : TypeId} {x : Operand} {i n : Nat} {fs : Array Field} {f : Field} {As Rs : List VP} {D : TypeDesc} (hx : Ev A L x (IsAgg As)) (hu : P.underlying s = some (.struct fs)) (hf : fs[i]? = some f) (hD : P.underlying f.type = some D) (hd : aggB D = true) (hn : (P.info? f.type).map (·.size) = some n) (hR : (As.drop f.offset).take n = Rs) :
    OpP P c ⟨d, .field s x i, ty, pos, af, g⟩ A L (IsAgg Rs) :=
  opp fun φ a w hm he => by
    obtain ⟨vs, h1, h2, h3⟩ : (IsAgg As).ok φ (a.eval x) := he x (by simp [Op.operands]) _ hx
    obtain ⟨v, h4, h5⟩ := part_runA (w := w) h2 h3 hD hd hn hR
    refine ⟨v, ?_, h5⟩
    simp only [execOp, h1]
    refine run_val ?_
    simp only [Instr.field, asAgg, Sem.run_bind, Sem.run_pure, run_underlying hu, Result.andThen_ok, hf]
    exact h4
theorem op_callV0K {v : Value} {B : VP} {f : FuncId} {x : Operand} {xs : List Operand} {ts : Array TypeId} {As : List VP} {R : VP} (hx : Ev A L x (Is (.func (.func f) #[] #[]))) (hc : ∀ (args : Array Value) (w : World), (callFunc f args).run P w = .ok (.enter f args) w)
    (hF : FnK P f (fact v B) As R) (ha : ArgsE A L xs As) (hG : fact v B ∈ L) : OpP P c ⟨d, .call { callee := .value x, args := xs.toArray, argTypes := ts }, ty, pos, af, g⟩ A L R := by
  intro φ a w K Q hm he hk
  have h1 : a.eval x = .func (.func f) #[] #[] := he x (by simp [Op.operands, Call.operands]) _ hx
  have hv := ha.alls (φ := φ) (a := a) fun x hx => he x (by simp [Op.operands, Call.operands, hx])
  have hrun : (execOp a.eval ⟨d, .call { callee := .value x, args := xs.toArray, argTypes := ts }, ty, pos, af, g⟩).run P w = .ok (.enter f (xs.map a.eval).toArray) w := by
    simp only [execOp, resolve, h1, Deferred.ofValue, Sem.run_bind, Sem.run_pure, Result.andThen_ok, invoke, hc]
    simp [hc]
  unfold Oper.wp
  rw [hrun]
  have hit := hm.mem.items _ hG
  refine (hF φ w _ hv ⟨hm.mem.base, fun it hi => by rw [List.mem_singleton] at hi; subst hi; exact hit, List.pairwise_singleton _ _⟩).mono ?_
  rintro e w' ⟨i, v, φ', rfl, h1, h2⟩
  exact hk φ' v w' (by simpa [names, fact] using h2) h1
end
end Go.Proofs.YtmcaomdjlepapaaDoor
