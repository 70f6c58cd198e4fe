/- Texts of this claim, laid together (part 3): walks of functions, what they compute, and plain laws of it. Own work. -/
import Derived.Test.YtmcaomdjlepapaaDoorRows
import Derived.ProofKit
import Derived.LaidMore
import Derived.OpenShut
import Derived.Stop.Joined
import Derived.Test.YtmcaomdjlepapaaDoorM2HashRoots
/- Contracts: which roots are valid. Own work. -/
namespace Go.Proofs.YtmcaomdjlepapaaDoor
open Go.RowKit
set_option linter.unusedVariables false
set_option linter.unusedSimpArgs false
set_option maxRecDepth 100000
def okAt (d i : Int) (p : Pt) : Bool := fieldB p && !(decide (p = Pt.nil) && decide (i < pagesV d))
def okR (r : Rt) (j : Nat) : Bool := match j with
  | 0 => okAt r.depth 0 r.p0
  | 1 => okAt r.depth 1 r.p1
  | 2 => okAt r.depth 2 r.p2
  | _ => okAt r.depth 3 r.p3
def headR (r : Rt) : Bool := validP r.first && decide (0 ≤ r.depth) && decide (r.depth ≤ 5)
def rootB (r : Rt) : Bool := if r.first = Pt.nil then decide (r = Rt.nil) else headR r && okR r 0 && okR r 1 && okR r 2 && okR r 3
theorem okAt_no {d i : Int} {p : Pt} (h : (!fieldB p || decide (p = Pt.nil) && decide (i < pagesV d)) = true) : okAt d i p = false := by
  unfold okAt
  revert h
  cases fieldB p <;> cases decide (p = Pt.nil) <;> cases decide (i < pagesV d) <;> simp
theorem okAt_yes {d i : Int} {p : Pt} (h : (!fieldB p || decide (p = Pt.nil) && decide (i < pagesV d)) = false) : okAt d i p = true := by
  unfold okAt
  revert h
  cases fieldB p <;> cases decide (p = Pt.nil) <;> cases decide (i < pagesV d) <;> simp
theorem okAt_noR {d i : Int} {p : Pt} (h : (!fieldB p || decide (i < pagesV d) && decide (p = Pt.nil)) = true) : okAt d i p = false := by
  unfold okAt
  revert h
  cases fieldB p <;> cases decide (p = Pt.nil) <;> cases decide (i < pagesV d) <;> simp
theorem okAt_yesR {d i : Int} {p : Pt} (h : (!fieldB p || decide (i < pagesV d) && decide (p = Pt.nil)) = false) : okAt d i p = true := by
  unfold okAt
  revert h
  cases fieldB p <;> cases decide (p = Pt.nil) <;> cases decide (i < pagesV d) <;> simp
theorem all_succ {Q : Nat → Bool} {k : Nat} (h : ∀ j, j < k → Q j = true) (h1 : Q k = true) : ∀ j, j < k + 1 → Q j = true := fun j hj => by
  by_cases e : j = k
  · rw [e]; exact h1
  · exact h j (by omega)
theorem root_head {r : Rt} (hn : r.first ≠ Pt.nil) (h : headR r = false) : rootB r = false := by unfold rootB; rw [if_neg hn, h]; rfl
theorem root_bad {r : Rt} (hn : r.first ≠ Pt.nil) (h : okR r 0 = false ∨ okR r 1 = false ∨ okR r 2 = false ∨ okR r 3 = false) : rootB r = false := by
  unfold rootB
  rw [if_neg hn]
  rcases h with h | h | h | h <;> rw [h] <;> simp
theorem root_ok {r : Rt} (hn : r.first ≠ Pt.nil) (hh : headR r = true) (h : ∀ j, j < 4 → okR r j = true) : rootB r = true := by
  unfold rootB
  rw [if_neg hn, hh, h 0 (by omega), h 1 (by omega), h 2 (by omega), h 3 (by omega)]
  rfl
-- (bodega/hashindex.Root).valid: function 28
set_option maxHeartbeats 4000000 in
theorem RootValid_ok (r : Rt) : FnK Tryd.prog 28 gNone [IsRt r] (Is (.bool (rootB r))) := by
  refine Fn.enterN Tryd.func28 Tryd.ntmps28 rfl rfl ?_
  intro c hX
  refine JC_seq ?_
  refine JC_region ?_
  (refine JL_n rfl (op_box (Ev.rfl' rfl) cellsT) ?_; intro i1)
  refine JL_1 rfl (op_assign rfl) ?_
  refine JL_nil ?_
  refine JQ_then (JC_seq (JC_seq ?_))
  refine JC_region ?_
  refine JL_1 rfl (by first | exact op_fieldPtr (k := 0) (Ev.rfl' rfl) rfl rfl rfl rfl | exact op_fieldRefN (k := 0) (Ev.rfl' rfl) rfl rfl rfl rfl nrmT) ?_
  refine JL_1 rfl (by first | exact op_loadRefsN (n := 2) (Ev.rfl' rfl) rfl rfl rfl (by rfl) nrmT | exact op_loadPtrsN (n := 2) (Ev.rfl' rfl) memT (by rfl) (by rfl) (by rfl) (by rfl) nrmT) ?_
  refine JL_1 rfl (op_loadRefsN (n := 2) (Ev.sub rfl (SubL.fact memT)) rfl rfl rfl (by rfl) nrmT) ?_
  refine JL_1 rfl (op_cmpA (vs := Pt.cells r.first) (ws := Pt.cells Pt.nil) (Ev.rfl' rfl) (Ev.rfl' rfl) (eqPt_guard _ _ _ r.first Pt.nil) (eqPt_eql r.first Pt.nil)) ?_
  refine JL_nil ?_
  refine JQ_then ?_
  refine JC_cond (Ev.rfl' rfl) (fun h1 => ?_) (fun h1 => ?_)
  · have hn : r.first = Pt.nil := of_decide_eq_true h1
    refine JC_seq ?_
    refine JC_region ?_
    refine JL_1 rfl (by first | exact op_loadRefsN (n := 11) (Ev.rfl' rfl) rfl rfl rfl (by rfl) nrmT | exact op_loadPtrsN (n := 11) (Ev.rfl' rfl) memT (by rfl) (by rfl) (by rfl) (by rfl) nrmT) ?_
    refine JL_1 rfl (op_buildN (qs := []) rfl rfl rfl rfl trivial (by rfl) nrmT) ?_
    refine JL_1 rfl (op_cmpA (vs := Rt.cells r) (ws := Rt.cells Rt.nil) (Ev.rfl' rfl) (Ev.rfl' rfl) (eqRt_guard _ _ _ r Rt.nil) (eqRt_eql r Rt.nil)) ?_
    refine JL_1 rfl (op_assign rfl) ?_
    refine JL_nil ?_
    refine JQ_then (JC_ret (JQ_then_ret ?_))
    refine JQ_ret1 Tryd.results28 rfl () (SubL.eq ?_) (List.nil_sublist _)
    unfold rootB; rw [if_pos hn]
  have hn : r.first ≠ Pt.nil := of_decide_eq_false h1
  refine JC_skip (JQ_then (JC_seq (JC_seq ?_)))
  refine JC_region ?_
  refine JL_1 rfl (by first | exact op_fieldPtr (k := 0) (Ev.rfl' rfl) rfl rfl rfl rfl | exact op_fieldRefN (k := 0) (Ev.rfl' rfl) rfl rfl rfl rfl nrmT) ?_
  refine JL_1 rfl (by first | exact op_loadRefsN (n := 2) (Ev.rfl' rfl) rfl rfl rfl (by rfl) nrmT | exact op_loadPtrsN (n := 2) (Ev.rfl' rfl) memT (by rfl) (by rfl) (by rfl) (by rfl) nrmT) ?_
  refine JL_1 rfl (op_call Tryd.call50 (ValidP_ok _) ⟨evS, trivial⟩) ?_
  refine JL_1 rfl (op_not (Ev.rfl' rfl)) ?_
  refine JL_1 rfl (op_move rfl) ?_
  (first | refine JL_i0 rfl rfl rfl (fun hg => (by have hg0 := hg; (try simp at hg); first | exact op_fieldPtr (k := 2) evG rfl rfl rfl rfl | exact op_fieldRefN (k := 2) evG rfl rfl rfl rfl nrmT)) ?_ | refine JL_i rfl rfl rfl (fun hp hg => (by have hpg := Bool.and_eq_true_iff.2 ⟨hp, hg⟩; have hg0 := hg; (try simp at hg); first | exact op_fieldPtr (k := 2) evG rfl rfl rfl rfl | exact op_fieldRefN (k := 2) evG rfl rfl rfl rfl nrmT)) ?_)
  (first | refine JL_i0 rfl rfl rfl (fun hg => (by have hg0 := hg; (try simp at hg); first | exact op_loadRef evG rfl rfl rfl | exact op_loadPtr evG memT (by rfl) (by rfl) (by rfl))) ?_ | refine JL_i rfl rfl rfl (fun hp hg => (by have hpg := Bool.and_eq_true_iff.2 ⟨hp, hg⟩; have hg0 := hg; (try simp at hg); first | exact op_loadRef evG rfl rfl rfl | exact op_loadPtr evG memT (by rfl) (by rfl) (by rfl))) ?_)
  (first | refine JL_i0 rfl rfl rfl (fun hg => (by have hg0 := hg; (try simp at hg); exact op_lss evG evG)) ?_ | refine JL_i rfl rfl rfl (fun hp hg => (by have hpg := Bool.and_eq_true_iff.2 ⟨hp, hg⟩; have hg0 := hg; (try simp at hg); exact op_lss evG evG)) ?_)
  refine JL_1 rfl (op_or (Ev.rfl' rfl) rfl (fun h => by first | exact SubL.rfl' | exact SubL.iteT (by first | (rw [h]; rfl) | (simp_all; done)) SubL.rfl')) ?_
  refine JL_1 rfl (op_move rfl) ?_
  (first | refine JL_i0 rfl rfl rfl (fun hg => (by have hg0 := hg; (try simp at hg); first | exact op_fieldPtr (k := 2) evG rfl rfl rfl rfl | exact op_fieldRefN (k := 2) evG rfl rfl rfl rfl nrmT)) ?_ | refine JL_i rfl rfl rfl (fun hp hg => (by have hpg := Bool.and_eq_true_iff.2 ⟨hp, hg⟩; have hg0 := hg; (try simp at hg); first | exact op_fieldPtr (k := 2) evG rfl rfl rfl rfl | exact op_fieldRefN (k := 2) evG rfl rfl rfl rfl nrmT)) ?_)
  (first | refine JL_i0 rfl rfl rfl (fun hg => (by have hg0 := hg; (try simp at hg); first | exact op_loadRef evG rfl rfl rfl | exact op_loadPtr evG memT (by rfl) (by rfl) (by rfl))) ?_ | refine JL_i rfl rfl rfl (fun hp hg => (by have hpg := Bool.and_eq_true_iff.2 ⟨hp, hg⟩; have hg0 := hg; (try simp at hg); first | exact op_loadRef evG rfl rfl rfl | exact op_loadPtr evG memT (by rfl) (by rfl) (by rfl))) ?_)
  (first | refine JL_i0 rfl rfl rfl (fun hg => (by have hg0 := hg; (try simp at hg); exact op_gtr evG evG)) ?_ | refine JL_i rfl rfl rfl (fun hp hg => (by have hpg := Bool.and_eq_true_iff.2 ⟨hp, hg⟩; have hg0 := hg; (try simp at hg); exact op_gtr evG evG)) ?_)
  refine JL_1 rfl (op_or (Ev.rfl' rfl) rfl (fun h => by first | exact SubL.rfl' | exact SubL.iteT (by first | (rw [h]; rfl) | (simp_all; done)) SubL.rfl')) ?_
  refine JL_nil ?_
  refine JQ_then ?_
  refine JC_cond (Ev.rfl' rfl) (fun h3 => ?_) (fun h3 => ?_)
  · refine JC_seq ?_
    refine JC_region ?_
    refine JL_1 rfl (op_assign rfl) ?_
    refine JL_nil ?_
    refine JQ_then (JC_ret (JQ_then_ret ?_))
    refine JQ_ret1 Tryd.results28 rfl () (SubL.eq ?_) (List.nil_sublist _)
    rw [root_head hn (by unfold headR; revert h3; cases validP r.first <;> simp <;> omega)]
  have hh : headR r = true := by unfold headR; revert h3; cases validP r.first <;> simp <;> omega
  have hd : 0 ≤ r.depth ∧ r.depth ≤ 5 := by unfold headR at hh; simp at hh; omega
  clear h3
  refine JC_skip (JQ_then (JC_seq (JC_seq ?_)))
  refine JC_region ?_
  refine JL_1 rfl (by first | exact op_fieldPtr (k := 3) (Ev.rfl' rfl) rfl rfl rfl rfl | exact op_fieldRefN (k := 3) (Ev.rfl' rfl) rfl rfl rfl rfl nrmT) ?_
  refine JL_1 rfl (by first | exact op_loadRefsN (n := 8) (Ev.rfl' rfl) rfl rfl rfl (by rfl) nrmT | exact op_loadPtrsN (n := 8) (Ev.rfl' rfl) memT (by rfl) (by rfl) (by rfl) (by rfl) nrmT) ?_
  refine JL_1 rfl (op_move rfl) ?_
  refine JL_nil ?_
  refine JQ_then (JC_block ?_)
  refine JC_loopP (fun k : Nat => k ≤ 4 ∧ ∀ j, j < k → okR r j = true) (fun k => [(1, Is (.pointer (some ⟨i1, 0, none⟩))), (27, IsAgg [Is (.int .i64 r.p0.line), Is (.int .i64 r.p0.gen), Is (.int .i64 r.p1.line), Is (.int .i64 r.p1.gen), Is (.int .i64 r.p2.line), Is (.int .i64 r.p2.gen), Is (.int .i64 r.p3.line), Is (.int .i64 r.p3.gen)]), (28, Is (.int .i64 (k : Nat)))]) (fun _ => [blk i1 30 (tRt.cells r), gNone]) (fun k => 4 - k) 0 ⟨by omega, fun j h => by omega⟩ esubT lessT ?_
  rintro k ⟨hk, hko⟩
  refine JC_seq ?_
  refine JC_region ?_
  refine JL_1 rfl (op_lss (Ev.rfl' rfl) (Ev.rfl' rfl)) ?_
  refine JL_nil ?_
  refine JQ_then (JC_seq ?_)
  refine JC_cond (Ev.rfl' rfl) (fun h6 => ?_) (fun h6 => ?_)
  · have hk4 : k = 0 ∨ k = 1 ∨ k = 2 ∨ k = 3 := by have := of_decide_eq_true h6; omega
    clear h6
    rcases hk4 with rfl | rfl | rfl | rfl
    all_goals
      refine JC_skip (JQ_then (JC_seq (JC_block (JC_seq ?_))))
      refine JC_region ?_
      refine JL_1 rfl (op_move rfl) ?_
      refine JL_1 rfl (op_indexV (k := _) (sz := 2) (Ev.rfl' rfl) (Ev.rfl' rfl) rfl rfl rfl rfl idxT (by first | decide | omega) nrmT) ?_
      (refine JL_n rfl (op_allocN rfl nrmT rfl) ?_; intro i4)
      refine JL_1 rfl (op_assign rfl) ?_
      refine JL_s0 (op_storeN (Ev.rfl' rfl) (Ev.rfl' rfl) cellsT replT nrmT (by rfl) (by rfl) (by rfl)) ?_
      refine JL_nil ?_
      refine JQ_then (JC_seq ?_)
      refine JC_region ?_
      refine JL_1 rfl (by first | exact op_loadRefsN (n := 2) (Ev.rfl' rfl) rfl rfl rfl (by rfl) nrmT | exact op_loadPtrsN (n := 2) (Ev.rfl' rfl) memT (by rfl) (by rfl) (by rfl) (by rfl) nrmT) ?_
      refine JL_1 rfl (by first | ((refine op_callK Tryd.call40 (isField_ok _) ⟨evS, trivial⟩ memT))) ?_
      refine JL_1 rfl (op_not (Ev.rfl' rfl)) ?_
      refine JL_1 rfl (op_move rfl) ?_
      (first | refine JL_i0 rfl rfl rfl (fun hg => (by have hg0 := hg; (try simp at hg); first | exact op_loadRefsN (n := 2) evG rfl rfl rfl (by rfl) nrmT | exact op_loadPtrsN (n := 2) evG memT (by rfl) (by rfl) (by rfl) (by rfl) nrmT)) ?_ | refine JL_i rfl rfl rfl (fun hp hg => (by have hpg := Bool.and_eq_true_iff.2 ⟨hp, hg⟩; have hg0 := hg; (try simp at hg); first | exact op_loadRefsN (n := 2) evG rfl rfl rfl (by rfl) nrmT | exact op_loadPtrsN (n := 2) evG memT (by rfl) (by rfl) (by rfl) (by rfl) nrmT)) ?_)
      (first | refine JL_i0 rfl rfl rfl (fun hg => (by have hg0 := hg; (try simp at hg); exact op_loadRefsN (n := 2) (Ev.sub rfl (SubL.fact memT)) rfl rfl rfl (by rfl) nrmT)) ?_ | refine JL_i rfl rfl rfl (fun hp hg => (by have hpg := Bool.and_eq_true_iff.2 ⟨hp, hg⟩; have hg0 := hg; (try simp at hg); exact op_loadRefsN (n := 2) (Ev.sub rfl (SubL.fact memT)) rfl rfl rfl (by rfl) nrmT)) ?_)
      (first | refine JL_i0 rfl rfl rfl (fun hg => (by have hg0 := hg; (try simp at hg); first | exact op_cmpA (vs := Pt.cells r.p0) (ws := Pt.cells Pt.nil) evG evG (eqPt_guard _ _ _ r.p0 Pt.nil) (eqPt_eql r.p0 Pt.nil) | exact op_cmpA (vs := Pt.cells r.p1) (ws := Pt.cells Pt.nil) evG evG (eqPt_guard _ _ _ r.p1 Pt.nil) (eqPt_eql r.p1 Pt.nil) | exact op_cmpA (vs := Pt.cells r.p2) (ws := Pt.cells Pt.nil) evG evG (eqPt_guard _ _ _ r.p2 Pt.nil) (eqPt_eql r.p2 Pt.nil) | exact op_cmpA (vs := Pt.cells r.p3) (ws := Pt.cells Pt.nil) evG evG (eqPt_guard _ _ _ r.p3 Pt.nil) (eqPt_eql r.p3 Pt.nil))) ?_ | refine JL_i rfl rfl rfl (fun hp hg => (by have hpg := Bool.and_eq_true_iff.2 ⟨hp, hg⟩; have hg0 := hg; (try simp at hg); first | exact op_cmpA (vs := Pt.cells r.p0) (ws := Pt.cells Pt.nil) evG evG (eqPt_guard _ _ _ r.p0 Pt.nil) (eqPt_eql r.p0 Pt.nil) | exact op_cmpA (vs := Pt.cells r.p1) (ws := Pt.cells Pt.nil) evG evG (eqPt_guard _ _ _ r.p1 Pt.nil) (eqPt_eql r.p1 Pt.nil) | exact op_cmpA (vs := Pt.cells r.p2) (ws := Pt.cells Pt.nil) evG evG (eqPt_guard _ _ _ r.p2 Pt.nil) (eqPt_eql r.p2 Pt.nil) | exact op_cmpA (vs := Pt.cells r.p3) (ws := Pt.cells Pt.nil) evG evG (eqPt_guard _ _ _ r.p3 Pt.nil) (eqPt_eql r.p3 Pt.nil))) ?_)
      (first | refine JL_i0 rfl rfl rfl (fun hg => (by have hg0 := hg; (try simp at hg); first | exact op_moveE (Ev.sub rfl (SubL.iteT (by first | assumption | (simp; done) | (simp; omega) | (simp_all; done)) SubL.rfl')) | exact op_moveE (Ev.rfl' rfl))) ?_ | refine JL_i rfl rfl rfl (fun hp hg => (by have hpg := Bool.and_eq_true_iff.2 ⟨hp, hg⟩; have hg0 := hg; (try simp at hg); first | exact op_moveE (Ev.sub rfl (SubL.iteT (by first | assumption | (simp; done) | (simp; omega) | (simp_all; done)) SubL.rfl')) | exact op_moveE (Ev.rfl' rfl))) ?_)
      (first | refine JL_i0 rfl rfl rfl (fun hg => (by have hg0 := hg; (try simp at hg); first | exact op_moveE (Ev.sub rfl (SubL.iteT (by first | assumption | (simp; done) | (simp; omega) | (simp_all; done)) SubL.rfl')) | exact op_moveE (Ev.rfl' rfl))) ?_ | refine JL_i rfl rfl rfl (fun hp hg => (by have hpg := Bool.and_eq_true_iff.2 ⟨hp, hg⟩; have hg0 := hg; (try simp at hg); first | exact op_moveE (Ev.sub rfl (SubL.iteT (by first | assumption | (simp; done) | (simp; omega) | (simp_all; done)) SubL.rfl')) | exact op_moveE (Ev.rfl' rfl))) ?_)
      (first | refine JL_i0 rfl rfl rfl (fun hg => (by have hg0 := hg; (try simp at hg); first | exact op_fieldPtr (k := 2) evG rfl rfl rfl rfl | exact op_fieldRefN (k := 2) evG rfl rfl rfl rfl nrmT)) ?_ | refine JL_i rfl rfl rfl (fun hp hg => (by have hpg := Bool.and_eq_true_iff.2 ⟨hp, hg⟩; have hg0 := hg; (try simp at hg); first | exact op_fieldPtr (k := 2) evG rfl rfl rfl rfl | exact op_fieldRefN (k := 2) evG rfl rfl rfl rfl nrmT)) ?_)
      (first | refine JL_i0 rfl rfl rfl (fun hg => (by have hg0 := hg; (try simp at hg); first | exact op_loadRef evG rfl rfl rfl | exact op_loadPtr evG memT (by rfl) (by rfl) (by rfl))) ?_ | refine JL_i rfl rfl rfl (fun hp hg => (by have hpg := Bool.and_eq_true_iff.2 ⟨hp, hg⟩; have hg0 := hg; (try simp at hg); first | exact op_loadRef evG rfl rfl rfl | exact op_loadPtr evG memT (by rfl) (by rfl) (by rfl))) ?_)
      (first | refine JL_i0 rfl rfl rfl (fun hg => (by have hg0 := hg; (try simp at hg); first | ((refine op_call Tryd.call51 (pagesOf_ok _ ?_) ⟨evS, trivial⟩); all_goals (first | first | assumption | omega)))) ?_ | refine JL_i rfl rfl rfl (fun hp hg => (by have hpg := Bool.and_eq_true_iff.2 ⟨hp, hg⟩; have hg0 := hg; (try simp at hg); first | ((refine op_call Tryd.call51 (pagesOf_ok _ ?_) ⟨evS, trivial⟩); all_goals (first | first | assumption | omega)))) ?_)
      (first | refine JL_i0 rfl rfl rfl (fun hg => (by have hg0 := hg; (try simp at hg); exact op_lss evG evG)) ?_ | refine JL_i rfl rfl rfl (fun hp hg => (by have hpg := Bool.and_eq_true_iff.2 ⟨hp, hg⟩; have hg0 := hg; (try simp at hg); exact op_lss evG evG)) ?_)
      (first | refine JL_i0 rfl rfl rfl (fun hg => (by have hg0 := hg; (try simp at hg); exact op_and evG rfl (fun h => by first | exact SubL.rfl' | exact SubL.iteT (by first | (rw [h]; rfl) | (simp_all; done)) SubL.rfl'))) ?_ | refine JL_i rfl rfl rfl (fun hp hg => (by have hpg := Bool.and_eq_true_iff.2 ⟨hp, hg⟩; have hg0 := hg; (try simp at hg); exact op_and evG rfl (fun h => by first | exact SubL.rfl' | exact SubL.iteT (by first | (rw [h]; rfl) | (simp_all; done)) SubL.rfl'))) ?_)
      refine JL_1 rfl (op_or (Ev.rfl' rfl) rfl (fun h => by first | exact SubL.rfl' | exact SubL.iteT (by first | (rw [h]; rfl) | (simp_all; done)) SubL.rfl')) ?_
      refine JL_nil ?_
      refine JQ_then ?_
      refine JC_cond (Ev.rfl' rfl) (fun h8 => ?_) (fun h8 => ?_)
      · refine JC_seq ?_
        refine JC_region ?_
        refine JL_1 rfl (op_assign rfl) ?_
        refine JL_nil ?_
        refine JQ_then (JC_ret (JQ_block_ret (JQ_then_ret (JQ_then_ret (JQ_block_ret (JQ_then_ret ?_))))))
        refine JQ_ret1 Tryd.results28 rfl () (SubL.eq ?_) (List.nil_sublist _)
        rw [root_bad hn (by first | exact Or.inl (okAt_no h8) | exact Or.inr (Or.inl (okAt_no h8)) | exact Or.inr (Or.inr (Or.inl (okAt_no h8))) | exact Or.inr (Or.inr (Or.inr (okAt_no h8))))]
      refine JC_skip (JQ_block (JQ_then ?_))
      refine JC_region ?_
      refine JL_1 rfl (op_add (Ev.rfl' rfl) (Ev.rfl' rfl) wrapT) ?_
      refine JL_1 rfl (op_move rfl) ?_
      refine JL_nil ?_
      first | exact JQ_roundP 1 ⟨by omega, all_succ hko (okAt_yes h8)⟩ (by omega) esubT lessT | exact JQ_roundP 2 ⟨by omega, all_succ hko (okAt_yes h8)⟩ (by omega) esubT lessT | exact JQ_roundP 3 ⟨by omega, all_succ hko (okAt_yes h8)⟩ (by omega) esubT lessT | exact JQ_roundP 4 ⟨by omega, all_succ hko (okAt_yes h8)⟩ (by omega) esubT lessT
  have hk4 : k = 4 := by have := of_decide_eq_false h6; omega
  subst hk4
  refine JC_exit (JQ_then_exit (JQ_then_exit (JQ_hit (JQ_then (JC_seq ?_)))))
  refine JC_region ?_
  refine JL_1 rfl (op_assign rfl) ?_
  refine JL_nil ?_
  refine JQ_then (JC_ret ?_)
  refine JQ_ret1 Tryd.results28 rfl () (SubL.eq ?_) (List.nil_sublist _)
  rw [root_ok hn hh hko]
-- bodegaref23.ValidRoot: function 30
set_option maxHeartbeats 4000000 in
theorem ValidRoot_ok (r : Rt) : FnP Tryd.prog 30 [IsRt r] (Is (.bool (rootB r))) := by
  refine FnP.enter Tryd.func30 Tryd.ntmps30 rfl rfl ?_
  intro c hX
  refine JC_seq ?_
  refine JC_region ?_
  (refine JL_n rfl (op_box (Ev.rfl' rfl) cellsT) ?_; intro i1)
  refine JL_1 rfl (op_assign rfl) ?_
  refine JL_nil ?_
  refine JQ_then (JC_seq (JC_seq ?_))
  refine JC_region ?_
  refine JL_1 rfl (by first | exact op_fieldPtr (k := 0) (Ev.rfl' rfl) rfl rfl rfl rfl | exact op_fieldRefN (k := 0) (Ev.rfl' rfl) rfl rfl rfl rfl nrmT) ?_
  refine JL_1 rfl (by first | exact op_loadRefsN (n := 2) (Ev.rfl' rfl) rfl rfl rfl (by rfl) nrmT | exact op_loadPtrsN (n := 2) (Ev.rfl' rfl) memT (by rfl) (by rfl) (by rfl) (by rfl) nrmT) ?_
  refine JL_1 rfl (op_buildN (qs := []) rfl rfl rfl rfl trivial (by rfl) nrmT) ?_
  refine JL_1 rfl (op_cmpA (vs := Pt.cells r.first) (ws := Pt.cells Pt.nil) (Ev.rfl' rfl) (Ev.rfl' rfl) (eqPtR_guard _ _ _ r.first Pt.nil) (eqPtR_eql r.first Pt.nil)) ?_
  refine JL_nil ?_
  refine JQ_then ?_
  refine JC_cond (Ev.rfl' rfl) (fun h1 => ?_) (fun h1 => ?_)
  · have hn : r.first = Pt.nil := of_decide_eq_true h1
    refine JC_seq ?_
    refine JC_region ?_
    refine JL_1 rfl (by first | exact op_loadRefsN (n := 11) (Ev.rfl' rfl) rfl rfl rfl (by rfl) nrmT | exact op_loadPtrsN (n := 11) (Ev.rfl' rfl) memT (by rfl) (by rfl) (by rfl) (by rfl) nrmT) ?_
    refine JL_1 rfl (op_buildN (qs := []) rfl rfl rfl rfl trivial (by rfl) nrmT) ?_
    refine JL_1 rfl (op_cmpA (vs := Rt.cells r) (ws := Rt.cells Rt.nil) (Ev.rfl' rfl) (Ev.rfl' rfl) (eqRtR_guard _ _ _ r Rt.nil) (eqRtR_eql r Rt.nil)) ?_
    refine JL_1 rfl (op_assign rfl) ?_
    refine JL_nil ?_
    refine JQ_then (JC_ret (JQ_then_ret ?_))
    refine JQ_ret1 Tryd.results30 rfl () (SubL.eq ?_) (List.nil_sublist _)
    unfold rootB; rw [if_pos hn]
  have hn : r.first ≠ Pt.nil := of_decide_eq_false h1
  refine JC_skip (JQ_then (JC_seq (JC_seq ?_)))
  refine JC_region ?_
  refine JL_1 rfl (by first | exact op_fieldPtr (k := 0) (Ev.rfl' rfl) rfl rfl rfl rfl | exact op_fieldRefN (k := 0) (Ev.rfl' rfl) rfl rfl rfl rfl nrmT) ?_
  refine JL_1 rfl (by first | exact op_loadRefsN (n := 2) (Ev.rfl' rfl) rfl rfl rfl (by rfl) nrmT | exact op_loadPtrsN (n := 2) (Ev.rfl' rfl) memT (by rfl) (by rfl) (by rfl) (by rfl) nrmT) ?_
  refine JL_1 rfl (op_call Tryd.call52 (ValidPR_ok _) ⟨evS, trivial⟩) ?_
  refine JL_1 rfl (op_not (Ev.rfl' rfl)) ?_
  refine JL_1 rfl (op_move rfl) ?_
  (first | refine JL_i0 rfl rfl rfl (fun hg => (by have hg0 := hg; (try simp at hg); first | exact op_fieldPtr (k := 2) evG rfl rfl rfl rfl | exact op_fieldRefN (k := 2) evG rfl rfl rfl rfl nrmT)) ?_ | refine JL_i rfl rfl rfl (fun hp hg => (by have hpg := Bool.and_eq_true_iff.2 ⟨hp, hg⟩; have hg0 := hg; (try simp at hg); first | exact op_fieldPtr (k := 2) evG rfl rfl rfl rfl | exact op_fieldRefN (k := 2) evG rfl rfl rfl rfl nrmT)) ?_)
  (first | refine JL_i0 rfl rfl rfl (fun hg => (by have hg0 := hg; (try simp at hg); first | exact op_loadRef evG rfl rfl rfl | exact op_loadPtr evG memT (by rfl) (by rfl) (by rfl))) ?_ | refine JL_i rfl rfl rfl (fun hp hg => (by have hpg := Bool.and_eq_true_iff.2 ⟨hp, hg⟩; have hg0 := hg; (try simp at hg); first | exact op_loadRef evG rfl rfl rfl | exact op_loadPtr evG memT (by rfl) (by rfl) (by rfl))) ?_)
  (first | refine JL_i0 rfl rfl rfl (fun hg => (by have hg0 := hg; (try simp at hg); exact op_lss evG evG)) ?_ | refine JL_i rfl rfl rfl (fun hp hg => (by have hpg := Bool.and_eq_true_iff.2 ⟨hp, hg⟩; have hg0 := hg; (try simp at hg); exact op_lss evG evG)) ?_)
  refine JL_1 rfl (op_or (Ev.rfl' rfl) rfl (fun h => by first | exact SubL.rfl' | exact SubL.iteT (by first | (rw [h]; rfl) | (simp_all; done)) SubL.rfl')) ?_
  refine JL_1 rfl (op_move rfl) ?_
  (first | refine JL_i0 rfl rfl rfl (fun hg => (by have hg0 := hg; (try simp at hg); first | exact op_fieldPtr (k := 2) evG rfl rfl rfl rfl | exact op_fieldRefN (k := 2) evG rfl rfl rfl rfl nrmT)) ?_ | refine JL_i rfl rfl rfl (fun hp hg => (by have hpg := Bool.and_eq_true_iff.2 ⟨hp, hg⟩; have hg0 := hg; (try simp at hg); first | exact op_fieldPtr (k := 2) evG rfl rfl rfl rfl | exact op_fieldRefN (k := 2) evG rfl rfl rfl rfl nrmT)) ?_)
  (first | refine JL_i0 rfl rfl rfl (fun hg => (by have hg0 := hg; (try simp at hg); first | exact op_loadRef evG rfl rfl rfl | exact op_loadPtr evG memT (by rfl) (by rfl) (by rfl))) ?_ | refine JL_i rfl rfl rfl (fun hp hg => (by have hpg := Bool.and_eq_true_iff.2 ⟨hp, hg⟩; have hg0 := hg; (try simp at hg); first | exact op_loadRef evG rfl rfl rfl | exact op_loadPtr evG memT (by rfl) (by rfl) (by rfl))) ?_)
  (first | refine JL_i0 rfl rfl rfl (fun hg => (by have hg0 := hg; (try simp at hg); exact op_gtr evG evG)) ?_ | refine JL_i rfl rfl rfl (fun hp hg => (by have hpg := Bool.and_eq_true_iff.2 ⟨hp, hg⟩; have hg0 := hg; (try simp at hg); exact op_gtr evG evG)) ?_)
  refine JL_1 rfl (op_or (Ev.rfl' rfl) rfl (fun h => by first | exact SubL.rfl' | exact SubL.iteT (by first | (rw [h]; rfl) | (simp_all; done)) SubL.rfl')) ?_
  refine JL_nil ?_
  refine JQ_then ?_
  refine JC_cond (Ev.rfl' rfl) (fun h3 => ?_) (fun h3 => ?_)
  · refine JC_seq ?_
    refine JC_region ?_
    refine JL_1 rfl (op_assign rfl) ?_
    refine JL_nil ?_
    refine JQ_then (JC_ret (JQ_then_ret ?_))
    refine JQ_ret1 Tryd.results30 rfl () (SubL.eq ?_) (List.nil_sublist _)
    rw [root_head hn (by unfold headR; revert h3; cases validP r.first <;> simp <;> omega)]
  have hh : headR r = true := by unfold headR; revert h3; cases validP r.first <;> simp <;> omega
  have hd : 0 ≤ r.depth ∧ r.depth ≤ 5 := by unfold headR at hh; simp at hh; omega
  clear h3
  refine JC_skip (JQ_then (JC_seq (JC_seq ?_)))
  refine JC_region ?_
  refine JL_1 rfl (op_assign rfl) ?_
  refine JL_nil ?_
  refine JQ_then (JC_block ?_)
  refine JC_loopP (fun k : Nat => k ≤ 4 ∧ ∀ j, j < k → okR r j = true) (fun k => [(1, Is (.pointer (some ⟨i1, 0, none⟩))), (3, Is (.int .i64 (k : Nat)))]) (fun _ => [blk i1 39 (tRt.cells r)]) (fun k => 4 - k) 0 ⟨by omega, fun j h => by omega⟩ esubT lessT ?_
  rintro k ⟨hk, hko⟩
  refine JC_seq (JC_seq ?_)
  refine JC_region ?_
  refine JL_1 rfl (op_move rfl) ?_
  refine JL_1 rfl (op_lss (Ev.rfl' rfl) (Ev.rfl' rfl)) ?_
  refine JL_nil ?_
  refine JQ_then ?_
  refine JC_cond (Ev.rfl' rfl) (fun h6 => ?_) (fun h6 => ?_)
  · have hk4 : k = 0 ∨ k = 1 ∨ k = 2 ∨ k = 3 := by have := of_decide_eq_true h6; omega
    clear h6
    rcases hk4 with rfl | rfl | rfl | rfl
    all_goals
      refine JC_skip (JQ_then (JC_seq (JC_block (JC_seq ?_))))
      refine JC_region ?_
      refine JL_1 rfl (op_move rfl) ?_
      refine JL_1 rfl (by first | exact op_fieldPtr (k := 3) (Ev.rfl' rfl) rfl rfl rfl rfl | exact op_fieldRefN (k := 3) (Ev.rfl' rfl) rfl rfl rfl rfl nrmT) ?_
      refine JL_1 rfl (op_indexArr (k := _) (sz := 2) (Ev.rfl' rfl) (Ev.rfl' rfl) rfl rfl idxT (by first | decide | omega)) ?_
      refine JL_1 rfl (by first | exact op_loadRefsN (n := 2) (Ev.rfl' rfl) rfl rfl rfl (by rfl) nrmT | exact op_loadPtrsN (n := 2) (Ev.rfl' rfl) memT (by rfl) (by rfl) (by rfl) (by rfl) nrmT) ?_
      refine JL_1 rfl (op_call Tryd.call43 (good_ok _) ⟨evS, trivial⟩) ?_
      refine JL_1 rfl (op_not (Ev.rfl' rfl)) ?_
      refine JL_1 rfl (op_move rfl) ?_
      (first | refine JL_i0 rfl rfl rfl (fun hg => (by have hg0 := hg; (try simp at hg); first | exact op_moveE (Ev.sub rfl (SubL.iteT (by first | assumption | (simp; done) | (simp; omega) | (simp_all; done)) SubL.rfl')) | exact op_moveE (Ev.rfl' rfl))) ?_ | refine JL_i rfl rfl rfl (fun hp hg => (by have hpg := Bool.and_eq_true_iff.2 ⟨hp, hg⟩; have hg0 := hg; (try simp at hg); first | exact op_moveE (Ev.sub rfl (SubL.iteT (by first | assumption | (simp; done) | (simp; omega) | (simp_all; done)) SubL.rfl')) | exact op_moveE (Ev.rfl' rfl))) ?_)
      (first | refine JL_i0 rfl rfl rfl (fun hg => (by have hg0 := hg; (try simp at hg); first | exact op_fieldPtr (k := 2) evG rfl rfl rfl rfl | exact op_fieldRefN (k := 2) evG rfl rfl rfl rfl nrmT)) ?_ | refine JL_i rfl rfl rfl (fun hp hg => (by have hpg := Bool.and_eq_true_iff.2 ⟨hp, hg⟩; have hg0 := hg; (try simp at hg); first | exact op_fieldPtr (k := 2) evG rfl rfl rfl rfl | exact op_fieldRefN (k := 2) evG rfl rfl rfl rfl nrmT)) ?_)
      (first | refine JL_i0 rfl rfl rfl (fun hg => (by have hg0 := hg; (try simp at hg); first | exact op_loadRef evG rfl rfl rfl | exact op_loadPtr evG memT (by rfl) (by rfl) (by rfl))) ?_ | refine JL_i rfl rfl rfl (fun hp hg => (by have hpg := Bool.and_eq_true_iff.2 ⟨hp, hg⟩; have hg0 := hg; (try simp at hg); first | exact op_loadRef evG rfl rfl rfl | exact op_loadPtr evG memT (by rfl) (by rfl) (by rfl))) ?_)
      (first | refine JL_i0 rfl rfl rfl (fun hg => (by have hg0 := hg; (try simp at hg); first | ((refine op_call Tryd.call53 (pages_ok _ ?_) ⟨evS, trivial⟩); all_goals (first | first | assumption | omega)))) ?_ | refine JL_i rfl rfl rfl (fun hp hg => (by have hpg := Bool.and_eq_true_iff.2 ⟨hp, hg⟩; have hg0 := hg; (try simp at hg); first | ((refine op_call Tryd.call53 (pages_ok _ ?_) ⟨evS, trivial⟩); all_goals (first | first | assumption | omega)))) ?_)
      (first | refine JL_i0 rfl rfl rfl (fun hg => (by have hg0 := hg; (try simp at hg); exact op_lss evG evG)) ?_ | refine JL_i rfl rfl rfl (fun hp hg => (by have hpg := Bool.and_eq_true_iff.2 ⟨hp, hg⟩; have hg0 := hg; (try simp at hg); exact op_lss evG evG)) ?_)
      (first | refine JL_i0 rfl rfl rfl (fun hg => (by have hg0 := hg; (try simp at hg); first | exact op_moveE (Ev.sub rfl (SubL.iteT (by first | assumption | (simp; done) | (simp; omega) | (simp_all; done)) SubL.rfl')) | exact op_moveE (Ev.rfl' rfl))) ?_ | refine JL_i rfl rfl rfl (fun hp hg => (by have hpg := Bool.and_eq_true_iff.2 ⟨hp, hg⟩; have hg0 := hg; (try simp at hg); first | exact op_moveE (Ev.sub rfl (SubL.iteT (by first | assumption | (simp; done) | (simp; omega) | (simp_all; done)) SubL.rfl')) | exact op_moveE (Ev.rfl' rfl))) ?_)
      (first | refine JL_i0 rfl rfl rfl (fun hg => (by have hg0 := hg; (try simp at hg); first | exact op_moveE (Ev.sub rfl (SubL.iteT (by first | assumption | (simp; done) | (simp; omega) | (simp_all; done)) SubL.rfl')) | exact op_moveE (Ev.rfl' rfl))) ?_ | refine JL_i rfl rfl rfl (fun hp hg => (by have hpg := Bool.and_eq_true_iff.2 ⟨hp, hg⟩; have hg0 := hg; (try simp at hg); first | exact op_moveE (Ev.sub rfl (SubL.iteT (by first | assumption | (simp; done) | (simp; omega) | (simp_all; done)) SubL.rfl')) | exact op_moveE (Ev.rfl' rfl))) ?_)
      (first | refine JL_i0 rfl rfl rfl (fun hg => (by have hg0 := hg; (try simp at hg); first | exact op_fieldPtr (k := 3) evG rfl rfl rfl rfl | exact op_fieldRefN (k := 3) evG rfl rfl rfl rfl nrmT)) ?_ | refine JL_i rfl rfl rfl (fun hp hg => (by have hpg := Bool.and_eq_true_iff.2 ⟨hp, hg⟩; have hg0 := hg; (try simp at hg); first | exact op_fieldPtr (k := 3) evG rfl rfl rfl rfl | exact op_fieldRefN (k := 3) evG rfl rfl rfl rfl nrmT)) ?_)
      (first | refine JL_i0 rfl rfl rfl (fun hg => (by have hg0 := hg; (try simp at hg); exact op_indexArr (k := _) (sz := 2) evG evG rfl rfl idxT (by first | decide | omega))) ?_ | refine JL_i rfl rfl rfl (fun hp hg => (by have hpg := Bool.and_eq_true_iff.2 ⟨hp, hg⟩; have hg0 := hg; (try simp at hg); exact op_indexArr (k := _) (sz := 2) evG evG rfl rfl idxT (by first | decide | omega))) ?_)
      (first | refine JL_i0 rfl rfl rfl (fun hg => (by have hg0 := hg; (try simp at hg); first | exact op_loadRefsN (n := 2) evG rfl rfl rfl (by rfl) nrmT | exact op_loadPtrsN (n := 2) evG memT (by rfl) (by rfl) (by rfl) (by rfl) nrmT)) ?_ | refine JL_i rfl rfl rfl (fun hp hg => (by have hpg := Bool.and_eq_true_iff.2 ⟨hp, hg⟩; have hg0 := hg; (try simp at hg); first | exact op_loadRefsN (n := 2) evG rfl rfl rfl (by rfl) nrmT | exact op_loadPtrsN (n := 2) evG memT (by rfl) (by rfl) (by rfl) (by rfl) nrmT)) ?_)
      (first | refine JL_i0 rfl rfl rfl (fun hg => (by have hg0 := hg; (try simp at hg); exact op_buildN (qs := []) rfl rfl rfl rfl trivial (by rfl) nrmT)) ?_ | refine JL_i rfl rfl rfl (fun hp hg => (by have hpg := Bool.and_eq_true_iff.2 ⟨hp, hg⟩; have hg0 := hg; (try simp at hg); exact op_buildN (qs := []) rfl rfl rfl rfl trivial (by rfl) nrmT)) ?_)
      (first | refine JL_i0 rfl rfl rfl (fun hg => (by have hg0 := hg; (try simp at hg); first | exact op_cmpA (vs := Pt.cells r.p0) (ws := Pt.cells Pt.nil) evG evG (eqPtR_guard _ _ _ r.p0 Pt.nil) (eqPtR_eql r.p0 Pt.nil) | exact op_cmpA (vs := Pt.cells r.p1) (ws := Pt.cells Pt.nil) evG evG (eqPtR_guard _ _ _ r.p1 Pt.nil) (eqPtR_eql r.p1 Pt.nil) | exact op_cmpA (vs := Pt.cells r.p2) (ws := Pt.cells Pt.nil) evG evG (eqPtR_guard _ _ _ r.p2 Pt.nil) (eqPtR_eql r.p2 Pt.nil) | exact op_cmpA (vs := Pt.cells r.p3) (ws := Pt.cells Pt.nil) evG evG (eqPtR_guard _ _ _ r.p3 Pt.nil) (eqPtR_eql r.p3 Pt.nil))) ?_ | refine JL_i rfl rfl rfl (fun hp hg => (by have hpg := Bool.and_eq_true_iff.2 ⟨hp, hg⟩; have hg0 := hg; (try simp at hg); first | exact op_cmpA (vs := Pt.cells r.p0) (ws := Pt.cells Pt.nil) evG evG (eqPtR_guard _ _ _ r.p0 Pt.nil) (eqPtR_eql r.p0 Pt.nil) | exact op_cmpA (vs := Pt.cells r.p1) (ws := Pt.cells Pt.nil) evG evG (eqPtR_guard _ _ _ r.p1 Pt.nil) (eqPtR_eql r.p1 Pt.nil) | exact op_cmpA (vs := Pt.cells r.p2) (ws := Pt.cells Pt.nil) evG evG (eqPtR_guard _ _ _ r.p2 Pt.nil) (eqPtR_eql r.p2 Pt.nil) | exact op_cmpA (vs := Pt.cells r.p3) (ws := Pt.cells Pt.nil) evG evG (eqPtR_guard _ _ _ r.p3 Pt.nil) (eqPtR_eql r.p3 Pt.nil))) ?_)
      (first | refine JL_i0 rfl rfl rfl (fun hg => (by have hg0 := hg; (try simp at hg); exact op_and evG rfl (fun h => by first | exact SubL.rfl' | exact SubL.iteT (by first | (rw [h]; rfl) | (simp_all; done)) SubL.rfl'))) ?_ | refine JL_i rfl rfl rfl (fun hp hg => (by have hpg := Bool.and_eq_true_iff.2 ⟨hp, hg⟩; have hg0 := hg; (try simp at hg); exact op_and evG rfl (fun h => by first | exact SubL.rfl' | exact SubL.iteT (by first | (rw [h]; rfl) | (simp_all; done)) SubL.rfl'))) ?_)
      refine JL_1 rfl (op_or (Ev.rfl' rfl) rfl (fun h => by first | exact SubL.rfl' | exact SubL.iteT (by first | (rw [h]; rfl) | (simp_all; done)) SubL.rfl')) ?_
      refine JL_nil ?_
      refine JQ_then ?_
      refine JC_cond (Ev.rfl' rfl) (fun h8 => ?_) (fun h8 => ?_)
      · refine JC_seq ?_
        refine JC_region ?_
        refine JL_1 rfl (op_assign rfl) ?_
        refine JL_nil ?_
        refine JQ_then (JC_ret (JQ_block_ret (JQ_then_ret (JQ_then_ret (JQ_block_ret (JQ_then_ret ?_))))))
        refine JQ_ret1 Tryd.results30 rfl () (SubL.eq ?_) (List.nil_sublist _)
        rw [root_bad hn (by first | exact Or.inl (okAt_noR h8) | exact Or.inr (Or.inl (okAt_noR h8)) | exact Or.inr (Or.inr (Or.inl (okAt_noR h8))) | exact Or.inr (Or.inr (Or.inr (okAt_noR h8))))]
      refine JC_skip (JQ_block (JQ_then ?_))
      refine JC_region ?_
      refine JL_1 rfl (op_move rfl) ?_
      refine JL_1 rfl (op_add (Ev.rfl' rfl) (Ev.rfl' rfl) wrapT) ?_
      refine JL_1 rfl (op_assign rfl) ?_
      refine JL_nil ?_
      first | exact JQ_roundP 1 ⟨by omega, all_succ hko (okAt_yesR h8)⟩ (by omega) esubT lessT | exact JQ_roundP 2 ⟨by omega, all_succ hko (okAt_yesR h8)⟩ (by omega) esubT lessT | exact JQ_roundP 3 ⟨by omega, all_succ hko (okAt_yesR h8)⟩ (by omega) esubT lessT | exact JQ_roundP 4 ⟨by omega, all_succ hko (okAt_yesR h8)⟩ (by omega) esubT lessT
  have hk4 : k = 4 := by have := of_decide_eq_false h6; omega
  subst hk4
  refine JC_exit (JQ_then_exit (JQ_then_exit (JQ_hit (JQ_then (JC_seq ?_)))))
  refine JC_region ?_
  refine JL_1 rfl (op_assign rfl) ?_
  refine JL_nil ?_
  refine JQ_then (JC_ret ?_)
  refine JQ_ret1 Tryd.results30 rfl () (SubL.eq ?_) (List.nil_sublist _)
  rw [root_ok hn hh hko]
end Go.Proofs.YtmcaomdjlepapaaDoor

/- Contracts: the root page is read. Own work. -/
namespace Go.Proofs.YtmcaomdjlepapaaDoor
open Go.RowKit
set_option linter.unusedVariables false
set_option linter.unusedSimpArgs false
set_option maxRecDepth 100000
@[reducible] def w32 (x : BitVec 64) (s : Nat) : BitVec 32 := (x >>> s).setWidth 32
def readV (p : Pg) : Rt := ⟨unpackP (p.d1.setWidth 32), UV (p.d1 >>> 32), unpackP (w32 p.d2 0), unpackP (w32 p.d2 32), unpackP (w32 p.d3 0), unpackP (w32 p.d3 32)⟩
def ptK (k j : Nat) (q : Pt) : Pt := if j < k then q else Pt.nil
def readK (p : Pg) (k : Nat) : Rt := ⟨unpackP (p.d1.setWidth 32), UV (p.d1 >>> 32), ptK k 0 (unpackP (w32 p.d2 0)), ptK k 1 (unpackP (w32 p.d2 32)), ptK k 2 (unpackP (w32 p.d3 0)), ptK k 3 (unpackP (w32 p.d3 32))⟩
def okK (p : Pg) (k : Nat) : Bool := match k with
  | 0 => okW (p.d1.setWidth 32)
  | 1 => okW (p.d1.setWidth 32) && okW (w32 p.d2 0)
  | 2 => okW (p.d1.setWidth 32) && okW (w32 p.d2 0) && okW (w32 p.d2 32)
  | 3 => okW (p.d1.setWidth 32) && okW (w32 p.d2 0) && okW (w32 p.d2 32) && okW (w32 p.d3 0)
  | _ => okW (p.d1.setWidth 32) && okW (w32 p.d2 0) && okW (w32 p.d2 32) && okW (w32 p.d3 0) && okW (w32 p.d3 32)
def readR (p : Pg) : Rt × Int := if p.l ≠ 96 then (Rt.nil, 1) else if okK p 4 && rootB (readV p) then (readV p, 0) else (Rt.nil, 14)
theorem read_1 {p : Pg} (h : p.l ≠ 96) : readR p = (Rt.nil, 1) := by unfold readR; rw [if_pos h]
theorem read_14 {p : Pg} (h : p.l = 96) (h1 : (okK p 4 && rootB (readV p)) = false) : readR p = (Rt.nil, 14) := by unfold readR; rw [if_neg (not_not_intro h), h1]; rfl
theorem read_0 {p : Pg} (h : p.l = 96) (h1 : (okK p 4 && rootB (readV p)) = true) : readR p = (readV p, 0) := by unfold readR; rw [if_neg (not_not_intro h), h1]; rfl
theorem hi_in (x : BitVec 64) : -9223372036854775808 ≤ UV (x >>> 32) ∧ UV (x >>> 32) ≤ 9223372036854775807 := by
  rw [UV_shr 64 x 32]
  have h1 := UV_lt x
  have h2 := UV_nonneg x
  omega
@[reducible] def lowW (x : BitVec 64) : BitVec 64 := (x.setWidth 32).setWidth 64
theorem rem_low (x : BitVec 64) : (UV x).tmod 4294967296 = UV (lowW x) := by
  rw [Int.tmod_eq_emod_of_nonneg (UV_nonneg x)]
  unfold UV lowW
  simp only [BitVec.toNat_setWidth]
  have := x.isLt
  omega
theorem low_low (x : BitVec 64) : (lowW x).setWidth 32 = x.setWidth 32 := by
  apply BitVec.eq_of_toNat_eq
  simp only [lowW, BitVec.toNat_setWidth]
  omega
theorem deep_bad {p : Pg} (h : 25769803776 ≤ UV p.d1) : rootB (readV p) = false := by
  have h1 : 6 ≤ (readV p).depth := by
    show 6 ≤ UV (p.d1 >>> 32)
    rw [UV_shr 64 p.d1 32]
    omega
  by_cases hn : (readV p).first = Pt.nil
  · unfold rootB
    rw [if_pos hn]
    refine decide_eq_false fun e => ?_
    rw [e] at h1
    exact absurd h1 (by decide)
  · exact root_head hn (by unfold headR; simp; omega)
-- hashindex.ReadRoot: function 8
set_option maxHeartbeats 4000000 in
theorem ReadRoot_ok (p : Pg) : FnK Tryd.prog 8 gNone [IsPg p] (IsTup [IsRt (readR p).1, Is (.int .i64 (readR p).2)]) := by
  have hdw := hi_in p.d1
  refine Fn.enterN Tryd.func8 Tryd.ntmps8 rfl rfl ?_
  intro c hX
  refine JC_seq ?_
  refine JC_region ?_
  (refine JL_n rfl (op_box (Ev.rfl' rfl) cellsT) ?_; intro i1)
  (refine JL_n rfl (op_allocN rfl nrmT rfl) ?_; intro i2)
  refine JL_1 rfl (op_assign rfl) ?_
  refine JL_nil ?_
  refine JQ_then (JC_seq (JC_seq ?_))
  refine JC_region ?_
  refine JL_1 rfl (by first | exact op_fieldPtr (k := 0) (Ev.rfl' rfl) rfl rfl rfl rfl | exact op_fieldRefN (k := 0) (Ev.rfl' rfl) rfl rfl rfl rfl nrmT) ?_
  refine JL_1 rfl (by first | exact op_loadRef (Ev.rfl' rfl) rfl rfl rfl | exact op_loadPtr (Ev.rfl' rfl) memT (by rfl) (by rfl) (by rfl)) ?_
  refine JL_1 rfl (op_neq (Ev.rfl' rfl) (Ev.rfl' rfl)) ?_
  refine JL_nil ?_
  refine JQ_then ?_
  refine JC_cond (Ev.rfl' rfl) (fun h1 => ?_) (fun h1 => ?_)
  · have hl : p.l ≠ 96 := by simpa using h1
    rw [read_1 hl]
    refine JC_seq ?_
    refine JC_region ?_
    refine JL_1 rfl (op_buildN (qs := []) rfl rfl rfl rfl trivial (by rfl) nrmT) ?_
    refine JL_s0 (op_storeN (Ev.rfl' rfl) (Ev.rfl' rfl) cellsT replT nrmT (by rfl) (by rfl) (by rfl)) ?_
    refine JL_1 rfl (op_assign rfl) ?_
    refine JL_nil ?_
    refine JQ_then (JC_ret (JQ_then_ret ?_))
    exact JQ_ret (Bs := [IsRt Rt.nil, Is (.int .i64 1)]) Tryd.results8 ⟨⟨_, _, _, _, rfl, memT, rfl, .inr ⟨rfl, _, rfl, rfl, subT⟩⟩, ⟨⟨_, rfl, subT⟩, trivial⟩⟩ () SubL.rfl' (List.nil_sublist _)
  have hl : p.l = 96 := by simpa using h1
  refine JC_skip (JQ_then (JC_seq ?_))
  refine JC_region ?_
  refine JL_1 rfl (by first | exact op_fieldPtr (k := 2) (Ev.rfl' rfl) rfl rfl rfl rfl | exact op_fieldRefN (k := 2) (Ev.rfl' rfl) rfl rfl rfl rfl nrmT) ?_
  refine JL_1 rfl (op_indexArr (k := 1) (sz := 1) (Ev.rfl' rfl) (Ev.rfl' rfl) rfl rfl idxT (by first | decide | omega)) ?_
  refine JL_1 rfl (by first | exact op_loadRef (Ev.rfl' rfl) rfl rfl rfl | exact op_loadPtr (Ev.rfl' rfl) memT (by rfl) (by rfl) (by rfl)) ?_
  refine JL_1 rfl (op_assign rfl) ?_
  refine JL_nil ?_
  refine JQ_then (JC_seq ?_)
  refine JC_region ?_
  refine JL_1 rfl (op_move rfl) ?_
  refine JL_1 rfl (op_conv (Ev.rfl' rfl) rfl rfl convT) ?_
  refine JL_1 rfl (op_call Tryd.call27 (unpackH_ok _) ⟨evS, trivial⟩) ?_
  refine JL_1 rfl (op_move rfl) ?_
  refine JL_1 rfl (op_extract (Ev.rfl' rfl) rfl) ?_
  refine JL_1 rfl (op_extract (Ev.rfl' rfl) rfl) ?_
  (refine JL_n rfl (op_allocN rfl nrmT rfl) ?_; intro i5)
  refine JL_s0 (op_storeN (Ev.rfl' rfl) (Ev.rfl' rfl) cellsT replT nrmT (by rfl) (by rfl) (by rfl)) ?_
  refine JL_1 rfl (op_assign rfl) ?_
  refine JL_nil ?_
  refine JQ_then (JC_seq ?_)
  refine JC_region ?_
  refine JL_1 rfl (by first | exact op_loadRefsN (n := 2) (Ev.rfl' rfl) rfl rfl rfl (by rfl) nrmT | exact op_loadPtrsN (n := 2) (Ev.rfl' rfl) memT (by rfl) (by rfl) (by rfl) (by rfl) nrmT) ?_
  refine JL_1 rfl (op_move rfl) ?_
  refine JL_1 rfl (by first | exact op_shrU (k := 32) ev64 (Ev.rfl' rfl) (by first | omega | exact UV_nonneg _) idxT | exact op_shr (Ev.rfl' rfl) (Ev.rfl' rfl) (by first | omega | exact UV_nonneg _) rfl) ?_
  refine JL_1 rfl (op_conv (Ev.rfl' rfl) rfl rfl convT) ?_
  refine JL_1 rfl (op_buildN (qs := [(0, _), (1, _)]) rfl rfl rfl rfl ⟨⟨rfl, _, (Ev.rfl' rfl), cellsT⟩, ⟨⟨rfl, _, (Ev.rfl' rfl), cellsT⟩, trivial⟩⟩ (by rfl) nrmT) ?_
  (refine JL_n rfl (op_allocN rfl nrmT rfl) ?_; intro i7)
  refine JL_s0 (op_storeN (Ev.rfl' rfl) (Ev.rfl' rfl) cellsT replT nrmT (by rfl) (by rfl) (by rfl)) ?_
  refine JL_nil ?_
  refine JQ_then (JC_seq (JC_seq ?_))
  refine JC_region ?_
  refine JL_1 rfl (op_move rfl) ?_
  refine JL_nil ?_
  refine JQ_then (JC_block ?_)
  refine JC_loopP (fun k : Nat => k ≤ 4) (fun k => [(1, Is (.pointer (some ⟨i1, 0, none⟩))), (2, Is (.pointer (some ⟨i2, 0, none⟩))), (6, Is (.bool (okK p k))), (7, Is (.pointer (some ⟨i7, 0, none⟩))), (29, Is (.int .i64 (k : Nat)))]) (fun k => [blk i7 30 (tRt.cells (readK p k)), blk i2 30 (tRt.cells Rt.nil), blk i1 25 (tPg.cells p), gNone]) (fun k => 4 - k) 0 (Nat.zero_le _) esubT lessT ?_
  rintro k hk
  refine JC_seq ?_
  refine JC_region ?_
  refine JL_1 rfl (op_lss (Ev.rfl' rfl) (Ev.rfl' rfl)) ?_
  refine JL_nil ?_
  refine JQ_then (JC_seq ?_)
  refine JC_cond (Ev.rfl' rfl) (fun h7 => ?_) (fun h7 => ?_)
  · have hk4 : k = 0 ∨ k = 1 ∨ k = 2 ∨ k = 3 := by have := of_decide_eq_true h7; omega
    clear h7
    rcases hk4 with rfl | rfl | rfl | rfl
    all_goals
      refine JC_skip (JQ_then (JC_seq (JC_block (JC_seq ?_))))
      refine JC_region ?_
      refine JL_1 rfl (op_move rfl) ?_
      refine JL_1 rfl (op_assign rfl) ?_
      refine JL_nil ?_
      refine JQ_then (JC_seq ?_)
      refine JC_region ?_
      refine JL_1 rfl (op_move rfl) ?_
      refine JL_1 rfl (op_quo (Ev.rfl' rfl) (Ev.rfl' rfl) (by omega) wrapT) ?_
      refine JL_1 rfl (op_add (Ev.rfl' rfl) (Ev.rfl' rfl) wrapT) ?_
      refine JL_1 rfl (by first | exact op_fieldPtr (k := 2) (Ev.rfl' rfl) rfl rfl rfl rfl | exact op_fieldRefN (k := 2) (Ev.rfl' rfl) rfl rfl rfl rfl nrmT) ?_
      refine JL_1 rfl (by first | exact op_indexArr (k := 2) (sz := 1) (Ev.rfl' rfl) (Ev.rfl' rfl) rfl rfl (by decide) (by decide) | exact op_indexArr (k := 3) (sz := 1) (Ev.rfl' rfl) (Ev.rfl' rfl) rfl rfl (by decide) (by decide)) ?_
      refine JL_1 rfl (by first | exact op_loadRef (Ev.rfl' rfl) rfl rfl rfl | exact op_loadPtr (Ev.rfl' rfl) memT (by rfl) (by rfl) (by rfl)) ?_
      refine JL_1 rfl (op_move rfl) ?_
      refine JL_1 rfl (op_rem (Ev.rfl' rfl) (Ev.rfl' rfl) (by omega) rfl) ?_
      refine JL_1 rfl (op_mul (Ev.rfl' rfl) (Ev.rfl' rfl) wrapT) ?_
      refine JL_1 rfl (op_conv (Ev.rfl' rfl) rfl rfl convT) ?_
      refine JL_1 rfl (by first | exact op_shrU (k := 0) ev64 (Ev.rfl' rfl) (by decide) (by decide) | exact op_shrU (k := 32) ev64 (Ev.rfl' rfl) (by decide) (by decide)) ?_
      refine JL_1 rfl (op_conv (Ev.rfl' rfl) rfl rfl convT) ?_
      refine JL_1 rfl (op_call Tryd.call27 (unpackH_ok _) ⟨evS, trivial⟩) ?_
      refine JL_1 rfl (op_move rfl) ?_
      refine JL_1 rfl (op_extract (Ev.rfl' rfl) rfl) ?_
      refine JL_1 rfl (op_extract (Ev.rfl' rfl) rfl) ?_
      (refine JL_n rfl (op_allocN rfl nrmT rfl) ?_; intro i9)
      refine JL_s0 (op_storeN (Ev.rfl' rfl) (Ev.rfl' rfl) cellsT replT nrmT (by rfl) (by rfl) (by rfl)) ?_
      refine JL_1 rfl (op_assign rfl) ?_
      refine JL_nil ?_
      refine JQ_then ?_
      refine JC_region ?_
      refine JL_1 rfl (op_move rfl) ?_
      refine JL_1 rfl (by first | exact op_loadRefsN (n := 2) (Ev.rfl' rfl) rfl rfl rfl (by rfl) nrmT | exact op_loadPtrsN (n := 2) (Ev.rfl' rfl) memT (by rfl) (by rfl) (by rfl) (by rfl) nrmT) ?_
      refine JL_1 rfl (op_move rfl) ?_
      refine JL_1 rfl (op_move rfl) ?_
      (first | refine JL_i0 rfl rfl rfl (fun hg => (by have hg0 := hg; (try simp at hg); first | exact op_moveE (Ev.sub rfl (SubL.iteT (by first | assumption | (simp; done) | (simp; omega) | (simp_all; done)) SubL.rfl')) | exact op_moveE (Ev.rfl' rfl))) ?_ | refine JL_i rfl rfl rfl (fun hp hg => (by have hpg := Bool.and_eq_true_iff.2 ⟨hp, hg⟩; have hg0 := hg; (try simp at hg); first | exact op_moveE (Ev.sub rfl (SubL.iteT (by first | assumption | (simp; done) | (simp; omega) | (simp_all; done)) SubL.rfl')) | exact op_moveE (Ev.rfl' rfl))) ?_)
      refine JL_1 rfl (op_and (Ev.rfl' rfl) rfl (fun h => by first | exact SubL.rfl' | exact SubL.iteT (by first | (rw [h]; rfl) | (simp_all; done)) SubL.rfl')) ?_
      refine JL_1 rfl (by first | exact op_fieldPtr (k := 3) (Ev.rfl' rfl) rfl rfl rfl rfl | exact op_fieldRefN (k := 3) (Ev.rfl' rfl) rfl rfl rfl rfl nrmT) ?_
      refine JL_1 rfl (op_indexArr (k := _) (sz := 2) (Ev.rfl' rfl) (Ev.rfl' rfl) rfl rfl idxT (by first | decide | omega)) ?_
      refine JL_s0 (op_storeN (Ev.rfl' rfl) (Ev.rfl' rfl) cellsT replT nrmT (by rfl) (by rfl) (by rfl)) ?_
      refine JL_1 rfl (op_assign rfl) ?_
      refine JL_nil ?_
      refine JQ_block (JQ_then ?_)
      refine JC_region ?_
      refine JL_1 rfl (op_add (Ev.rfl' rfl) (Ev.rfl' rfl) wrapT) ?_
      refine JL_1 rfl (op_move rfl) ?_
      refine JL_nil ?_
      first | exact JQ_roundP 1 (by omega) (by omega) esubT lessT | exact JQ_roundP 2 (by omega) (by omega) esubT lessT | exact JQ_roundP 3 (by omega) (by omega) esubT lessT | exact JQ_roundP 4 (by omega) (by omega) esubT lessT
  have hk4 : k = 4 := by have := of_decide_eq_false h7; omega
  subst hk4
  refine JC_blkEq replT (show tRt.cells (readK p 4) = tRt.cells (readV p) from rfl) ?_
  refine JC_exit (JQ_then_exit (JQ_then_exit (JQ_hit (JQ_then (JC_seq (JC_seq ?_))))))
  refine JC_region ?_
  refine JL_1 rfl (op_move rfl) ?_
  refine JL_1 rfl (op_not (Ev.rfl' rfl)) ?_
  refine JL_1 rfl (op_move rfl) ?_
  (first | refine JL_i0 rfl rfl rfl (fun hg => (by have hg0 := hg; (try simp at hg); first | exact op_loadRefsN (n := 11) evG rfl rfl rfl (by rfl) nrmT | exact op_loadPtrsN (n := 11) evG memT (by rfl) (by rfl) (by rfl) (by rfl) nrmT)) ?_ | refine JL_i rfl rfl rfl (fun hp hg => (by have hpg := Bool.and_eq_true_iff.2 ⟨hp, hg⟩; have hg0 := hg; (try simp at hg); first | exact op_loadRefsN (n := 11) evG rfl rfl rfl (by rfl) nrmT | exact op_loadPtrsN (n := 11) evG memT (by rfl) (by rfl) (by rfl) (by rfl) nrmT)) ?_)
  (first | refine JL_i0 rfl rfl rfl (fun hg => (by have hg0 := hg; (try simp at hg); first | ((refine op_callK Tryd.call28 (RootValid_ok _) ⟨evS, trivial⟩ memT)))) ?_ | refine JL_i rfl rfl rfl (fun hp hg => (by have hpg := Bool.and_eq_true_iff.2 ⟨hp, hg⟩; have hg0 := hg; (try simp at hg); first | ((refine op_callK Tryd.call28 (RootValid_ok _) ⟨evS, trivial⟩ memT)))) ?_)
  (first | refine JL_i0 rfl rfl rfl (fun hg => (by have hg0 := hg; (try simp at hg); exact op_not evG)) ?_ | refine JL_i rfl rfl rfl (fun hp hg => (by have hpg := Bool.and_eq_true_iff.2 ⟨hp, hg⟩; have hg0 := hg; (try simp at hg); exact op_not evG)) ?_)
  refine JL_1 rfl (op_or (Ev.rfl' rfl) rfl (fun h => by first | exact SubL.rfl' | exact SubL.iteT (by first | (rw [h]; rfl) | (simp_all; done)) SubL.rfl')) ?_
  refine JL_nil ?_
  refine JQ_then ?_
  refine JC_cond (Ev.rfl' rfl) (fun h12 => ?_) (fun h12 => ?_)
  · rw [read_14 hl (by revert h12; cases okK p 4 <;> cases rootB (readV p) <;> simp)]
    refine JC_seq ?_
    refine JC_region ?_
    refine JL_1 rfl (op_buildN (qs := []) rfl rfl rfl rfl trivial (by rfl) nrmT) ?_
    refine JL_s0 (op_storeN (Ev.rfl' rfl) (Ev.rfl' rfl) cellsT replT nrmT (by rfl) (by rfl) (by rfl)) ?_
    refine JL_1 rfl (op_assign rfl) ?_
    refine JL_nil ?_
    refine JQ_then (JC_ret (JQ_then_ret ?_))
    exact JQ_ret (Bs := [IsRt Rt.nil, Is (.int .i64 14)]) Tryd.results8 ⟨⟨_, _, _, _, rfl, memT, rfl, .inr ⟨rfl, _, rfl, rfl, subT⟩⟩, ⟨⟨_, rfl, subT⟩, trivial⟩⟩ () SubL.rfl' (List.nil_sublist _)
  rw [read_0 hl (by revert h12; cases okK p 4 <;> cases rootB (readV p) <;> simp)]
  refine JC_skip (JQ_then (JC_seq ?_))
  refine JC_region ?_
  refine JL_1 rfl (by first | exact op_loadRefsN (n := 11) (Ev.rfl' rfl) rfl rfl rfl (by rfl) nrmT | exact op_loadPtrsN (n := 11) (Ev.rfl' rfl) memT (by rfl) (by rfl) (by rfl) (by rfl) nrmT) ?_
  refine JL_s0 (op_storeN (Ev.rfl' rfl) (Ev.rfl' rfl) cellsT replT nrmT (by rfl) (by rfl) (by rfl)) ?_
  refine JL_1 rfl (op_assign rfl) ?_
  refine JL_nil ?_
  refine JQ_then (JC_ret ?_)
  exact JQ_ret (Bs := [IsRt (readV p), Is (.int .i64 0)]) Tryd.results8 ⟨⟨_, _, _, _, rfl, memT, rfl, .inr ⟨rfl, _, rfl, rfl, subT⟩⟩, ⟨⟨_, rfl, subT⟩, trivial⟩⟩ () SubL.rfl' (List.nil_sublist _)
end Go.Proofs.YtmcaomdjlepapaaDoor

/- Contracts: the root page is read, by the reference. Own work. -/
namespace Go.Proofs.YtmcaomdjlepapaaDoor
open Go.RowKit
set_option linter.unusedVariables false
set_option linter.unusedSimpArgs false
set_option maxRecDepth 100000
-- bodegaref23.ReadRoot: function 9
set_option maxHeartbeats 4000000 in
theorem ReadRootR_ok (p : Pg) : FnP Tryd.prog 9 [IsPg p] (IsTup [IsRt (readR p).1, Is (.int .i64 (readR p).2)]) := by
  have hdw := hi_in p.d1
  refine FnP.enter Tryd.func9 Tryd.ntmps9 rfl rfl ?_
  intro c hX
  refine JC_seq ?_
  refine JC_region ?_
  (refine JL_n rfl (op_box (Ev.rfl' rfl) cellsT) ?_; intro i1)
  (refine JL_n rfl (op_allocN rfl nrmT rfl) ?_; intro i2)
  refine JL_1 rfl (op_assign rfl) ?_
  refine JL_nil ?_
  refine JQ_then (JC_seq (JC_seq ?_))
  refine JC_region ?_
  refine JL_1 rfl (by first | exact op_fieldPtr (k := 0) (Ev.rfl' rfl) rfl rfl rfl rfl | exact op_fieldRefN (k := 0) (Ev.rfl' rfl) rfl rfl rfl rfl nrmT) ?_
  refine JL_1 rfl (by first | exact op_loadRef (Ev.rfl' rfl) rfl rfl rfl | exact op_loadPtr (Ev.rfl' rfl) memT (by rfl) (by rfl) (by rfl)) ?_
  refine JL_1 rfl (op_neq (Ev.rfl' rfl) (Ev.rfl' rfl)) ?_
  refine JL_nil ?_
  refine JQ_then ?_
  refine JC_cond (Ev.rfl' rfl) (fun h1 => ?_) (fun h1 => ?_)
  · have hl : p.l ≠ 96 := by simpa using h1
    rw [read_1 hl]
    refine JC_seq ?_
    refine JC_region ?_
    refine JL_1 rfl (op_buildN (qs := []) rfl rfl rfl rfl trivial (by rfl) nrmT) ?_
    refine JL_s0 (op_storeN (Ev.rfl' rfl) (Ev.rfl' rfl) cellsT replT nrmT (by rfl) (by rfl) (by rfl)) ?_
    refine JL_1 rfl (op_assign rfl) ?_
    refine JL_nil ?_
    refine JQ_then (JC_ret (JQ_then_ret ?_))
    exact JQ_ret (Bs := [IsRt Rt.nil, Is (.int .i64 1)]) Tryd.results9 ⟨⟨_, _, _, _, rfl, memT, rfl, .inr ⟨rfl, _, rfl, rfl, subT⟩⟩, ⟨⟨_, rfl, subT⟩, trivial⟩⟩ () SubL.rfl' (List.nil_sublist _)
  have hl : p.l = 96 := by simpa using h1
  refine JC_skip (JQ_then (JC_seq ?_))
  refine JC_region ?_
  (refine JL_n rfl (op_allocN rfl nrmT rfl) ?_; intro i4)
  refine JL_nil ?_
  refine JQ_then (JC_seq (JC_seq ?_))
  refine JC_region ?_
  refine JL_1 rfl (by first | exact op_fieldPtr (k := 2) (Ev.rfl' rfl) rfl rfl rfl rfl | exact op_fieldRefN (k := 2) (Ev.rfl' rfl) rfl rfl rfl rfl nrmT) ?_
  refine JL_1 rfl (op_indexArr (k := 1) (sz := 1) (Ev.rfl' rfl) (Ev.rfl' rfl) rfl rfl idxT (by first | decide | omega)) ?_
  refine JL_1 rfl (by first | exact op_loadRef (Ev.rfl' rfl) rfl rfl rfl | exact op_loadPtr (Ev.rfl' rfl) memT (by rfl) (by rfl) (by rfl)) ?_
  refine JL_1 rfl (op_geq (Ev.rfl' rfl) (Ev.rfl' rfl)) ?_
  refine JL_nil ?_
  refine JQ_then ?_
  refine JC_cond (Ev.rfl' rfl) (fun h4 => ?_) (fun h4 => ?_)
  · have hb := of_decide_eq_true h4
    rw [read_14 hl (by rw [deep_bad (by omega)]; simp)]
    refine JC_seq ?_
    refine JC_region ?_
    refine JL_1 rfl (op_buildN (qs := []) rfl rfl rfl rfl trivial (by rfl) nrmT) ?_
    refine JL_s0 (op_storeN (Ev.rfl' rfl) (Ev.rfl' rfl) cellsT replT nrmT (by rfl) (by rfl) (by rfl)) ?_
    refine JL_1 rfl (op_assign rfl) ?_
    refine JL_nil ?_
    refine JQ_then (JC_ret (JQ_then_ret ?_))
    exact JQ_ret (Bs := [IsRt Rt.nil, Is (.int .i64 14)]) Tryd.results9 ⟨⟨_, _, _, _, rfl, memT, rfl, .inr ⟨rfl, _, rfl, rfl, subT⟩⟩, ⟨⟨_, rfl, subT⟩, trivial⟩⟩ () SubL.rfl' (List.nil_sublist _)
  refine JC_skip (JQ_then (JC_seq ?_))
  refine JC_region ?_
  refine JL_1 rfl (by first | exact op_fieldPtr (k := 2) (Ev.rfl' rfl) rfl rfl rfl rfl | exact op_fieldRefN (k := 2) (Ev.rfl' rfl) rfl rfl rfl rfl nrmT) ?_
  refine JL_1 rfl (op_indexArr (k := 1) (sz := 1) (Ev.rfl' rfl) (Ev.rfl' rfl) rfl rfl idxT (by first | decide | omega)) ?_
  refine JL_1 rfl (by first | exact op_loadRef (Ev.rfl' rfl) rfl rfl rfl | exact op_loadPtr (Ev.rfl' rfl) memT (by rfl) (by rfl) (by rfl)) ?_
  refine JL_1 rfl (by first | exact op_shrU (k := 32) ev64 (Ev.rfl' rfl) (by first | omega | exact UV_nonneg _) idxT | exact op_shr (Ev.rfl' rfl) (Ev.rfl' rfl) (by first | omega | exact UV_nonneg _) rfl) ?_
  refine JL_1 rfl (op_conv (Ev.rfl' rfl) rfl rfl convT) ?_
  refine JL_1 rfl (by first | exact op_fieldPtr (k := 2) (Ev.rfl' rfl) rfl rfl rfl rfl | exact op_fieldRefN (k := 2) (Ev.rfl' rfl) rfl rfl rfl rfl nrmT) ?_
  refine JL_s0 (op_storeN (Ev.rfl' rfl) (Ev.rfl' rfl) cellsT replT nrmT (by rfl) (by rfl) (by rfl)) ?_
  refine JL_nil ?_
  refine JQ_then (JC_seq ?_)
  refine JC_region ?_
  refine JL_1 rfl (op_assign rfl) ?_
  refine JL_nil ?_
  refine JQ_then (JC_seq ?_)
  refine JC_region ?_
  refine JL_1 rfl (by first | exact op_fieldPtr (k := 2) (Ev.rfl' rfl) rfl rfl rfl rfl | exact op_fieldRefN (k := 2) (Ev.rfl' rfl) rfl rfl rfl rfl nrmT) ?_
  refine JL_1 rfl (op_indexArr (k := 1) (sz := 1) (Ev.rfl' rfl) (Ev.rfl' rfl) rfl rfl idxT (by first | decide | omega)) ?_
  refine JL_1 rfl (by first | exact op_loadRef (Ev.rfl' rfl) rfl rfl rfl | exact op_loadPtr (Ev.rfl' rfl) memT (by rfl) (by rfl) (by rfl)) ?_
  refine JL_1 rfl (op_rem (Ev.rfl' rfl) (Ev.rfl' rfl) (by omega) rfl) ?_
  rw [rem_low]
  refine JL_1 rfl (op_call Tryd.call29 (pointer_ok _) ⟨evS, trivial⟩) ?_
  rw [low_low]
  refine JL_1 rfl (op_move rfl) ?_
  refine JL_1 rfl (op_extract (Ev.rfl' rfl) rfl) ?_
  refine JL_1 rfl (op_extract (Ev.rfl' rfl) rfl) ?_
  refine JL_1 rfl (by first | exact op_fieldPtr (k := 0) (Ev.rfl' rfl) rfl rfl rfl rfl | exact op_fieldRefN (k := 0) (Ev.rfl' rfl) rfl rfl rfl rfl nrmT) ?_
  refine JL_s0 (op_storeN (Ev.rfl' rfl) (Ev.rfl' rfl) cellsT replT nrmT (by rfl) (by rfl) (by rfl)) ?_
  refine JL_1 rfl (op_assign rfl) ?_
  refine JL_nil ?_
  refine JQ_then (JC_seq (JC_seq ?_))
  refine JC_region ?_
  refine JL_1 rfl (op_assign rfl) ?_
  refine JL_nil ?_
  refine JQ_then (JC_block ?_)
  refine JC_loopP (fun k : Nat => k ≤ 4) (fun k => [(1, Is (.pointer (some ⟨i1, 0, none⟩))), (2, Is (.pointer (some ⟨i2, 0, none⟩))), (4, Is (.pointer (some ⟨i4, 0, none⟩))), (5, Is (.bool (okK p k))), (6, Is (.int .i64 (k : Nat)))]) (fun k => [blk i4 39 (tRt.cells (readK p k)), blk i2 39 (tRt.cells Rt.nil), blk i1 25 (tPg.cells p)]) (fun k => 4 - k) 0 (Nat.zero_le _) esubT lessT ?_
  rintro k hk
  refine JC_seq (JC_seq ?_)
  refine JC_region ?_
  refine JL_1 rfl (op_move rfl) ?_
  refine JL_1 rfl (op_lss (Ev.rfl' rfl) (Ev.rfl' rfl)) ?_
  refine JL_nil ?_
  refine JQ_then ?_
  refine JC_cond (Ev.rfl' rfl) (fun h10 => ?_) (fun h10 => ?_)
  · have hk4 : k = 0 ∨ k = 1 ∨ k = 2 ∨ k = 3 := by have := of_decide_eq_true h10; omega
    clear h10
    rcases hk4 with rfl | rfl | rfl | rfl
    all_goals
      refine JC_skip (JQ_then (JC_seq (JC_block (JC_seq ?_))))
      refine JC_region ?_
      refine JL_1 rfl (op_assign rfl) ?_
      refine JL_nil ?_
      refine JQ_then (JC_seq ?_)
      refine JC_region ?_
      refine JL_1 rfl (op_move rfl) ?_
      refine JL_1 rfl (op_move rfl) ?_
      refine JL_1 rfl (op_quo (Ev.rfl' rfl) (Ev.rfl' rfl) (by omega) wrapT) ?_
      refine JL_1 rfl (op_add (Ev.rfl' rfl) (Ev.rfl' rfl) wrapT) ?_
      refine JL_1 rfl (by first | exact op_fieldPtr (k := 2) (Ev.rfl' rfl) rfl rfl rfl rfl | exact op_fieldRefN (k := 2) (Ev.rfl' rfl) rfl rfl rfl rfl nrmT) ?_
      refine JL_1 rfl (by first | exact op_indexArr (k := 2) (sz := 1) (Ev.rfl' rfl) (Ev.rfl' rfl) rfl rfl (by decide) (by decide) | exact op_indexArr (k := 3) (sz := 1) (Ev.rfl' rfl) (Ev.rfl' rfl) rfl rfl (by decide) (by decide)) ?_
      refine JL_1 rfl (by first | exact op_loadRef (Ev.rfl' rfl) rfl rfl rfl | exact op_loadPtr (Ev.rfl' rfl) memT (by rfl) (by rfl) (by rfl)) ?_
      refine JL_1 rfl (op_move rfl) ?_
      refine JL_1 rfl (op_rem (Ev.rfl' rfl) (Ev.rfl' rfl) (by omega) rfl) ?_
      refine JL_1 rfl (op_mul (Ev.rfl' rfl) (Ev.rfl' rfl) wrapT) ?_
      refine JL_1 rfl (op_conv (Ev.rfl' rfl) rfl rfl convT) ?_
      refine JL_1 rfl (by first | exact op_shrU (k := 0) ev64 (Ev.rfl' rfl) (by decide) (by decide) | exact op_shrU (k := 32) ev64 (Ev.rfl' rfl) (by decide) (by decide)) ?_
      refine JL_1 rfl (op_rem (Ev.rfl' rfl) (Ev.rfl' rfl) (by omega) rfl) ?_
      rw [rem_low]
      refine JL_1 rfl (op_call Tryd.call29 (pointer_ok _) ⟨evS, trivial⟩) ?_
      rw [low_low]
      refine JL_1 rfl (op_move rfl) ?_
      refine JL_1 rfl (op_extract (Ev.rfl' rfl) rfl) ?_
      refine JL_1 rfl (op_extract (Ev.rfl' rfl) rfl) ?_
      refine JL_1 rfl (by first | exact op_fieldPtr (k := 3) (Ev.rfl' rfl) rfl rfl rfl rfl | exact op_fieldRefN (k := 3) (Ev.rfl' rfl) rfl rfl rfl rfl nrmT) ?_
      refine JL_1 rfl (op_indexArr (k := _) (sz := 2) (Ev.rfl' rfl) (Ev.rfl' rfl) rfl rfl idxT (by first | decide | omega)) ?_
      refine JL_s0 (op_storeN (Ev.rfl' rfl) (Ev.rfl' rfl) cellsT replT nrmT (by rfl) (by rfl) (by rfl)) ?_
      refine JL_1 rfl (op_assign rfl) ?_
      refine JL_nil ?_
      refine JQ_then ?_
      refine JC_region ?_
      refine JL_1 rfl (op_move rfl) ?_
      refine JL_1 rfl (op_move rfl) ?_
      (first | refine JL_i0 rfl rfl rfl (fun hg => (by have hg0 := hg; (try simp at hg); first | exact op_moveE (Ev.sub rfl (SubL.iteT (by first | assumption | (simp; done) | (simp; omega) | (simp_all; done)) SubL.rfl')) | exact op_moveE (Ev.rfl' rfl))) ?_ | refine JL_i rfl rfl rfl (fun hp hg => (by have hpg := Bool.and_eq_true_iff.2 ⟨hp, hg⟩; have hg0 := hg; (try simp at hg); first | exact op_moveE (Ev.sub rfl (SubL.iteT (by first | assumption | (simp; done) | (simp; omega) | (simp_all; done)) SubL.rfl')) | exact op_moveE (Ev.rfl' rfl))) ?_)
      refine JL_1 rfl (op_and (Ev.rfl' rfl) rfl (fun h => by first | exact SubL.rfl' | exact SubL.iteT (by first | (rw [h]; rfl) | (simp_all; done)) SubL.rfl')) ?_
      refine JL_1 rfl (op_assign rfl) ?_
      refine JL_nil ?_
      refine JQ_block (JQ_then ?_)
      refine JC_region ?_
      refine JL_1 rfl (op_move rfl) ?_
      refine JL_1 rfl (op_add (Ev.rfl' rfl) (Ev.rfl' rfl) wrapT) ?_
      refine JL_1 rfl (op_assign rfl) ?_
      refine JL_nil ?_
      first | exact JQ_roundP 1 (by omega) (by omega) esubT lessT | exact JQ_roundP 2 (by omega) (by omega) esubT lessT | exact JQ_roundP 3 (by omega) (by omega) esubT lessT | exact JQ_roundP 4 (by omega) (by omega) esubT lessT
  have hk4 : k = 4 := by have := of_decide_eq_false h10; omega
  subst hk4
  refine JC_blkEq replT (show tRt.cells (readK p 4) = tRt.cells (readV p) from rfl) ?_
  refine JC_exit (JQ_then_exit (JQ_then_exit (JQ_hit (JQ_then (JC_seq (JC_seq ?_))))))
  refine JC_region ?_
  refine JL_1 rfl (op_move rfl) ?_
  refine JL_1 rfl (op_not (Ev.rfl' rfl)) ?_
  refine JL_1 rfl (op_move rfl) ?_
  (first | refine JL_i0 rfl rfl rfl (fun hg => (by have hg0 := hg; (try simp at hg); first | exact op_loadRefsN (n := 11) evG rfl rfl rfl (by rfl) nrmT | exact op_loadPtrsN (n := 11) evG memT (by rfl) (by rfl) (by rfl) (by rfl) nrmT)) ?_ | refine JL_i rfl rfl rfl (fun hp hg => (by have hpg := Bool.and_eq_true_iff.2 ⟨hp, hg⟩; have hg0 := hg; (try simp at hg); first | exact op_loadRefsN (n := 11) evG rfl rfl rfl (by rfl) nrmT | exact op_loadPtrsN (n := 11) evG memT (by rfl) (by rfl) (by rfl) (by rfl) nrmT)) ?_)
  (first | refine JL_i0 rfl rfl rfl (fun hg => (by have hg0 := hg; (try simp at hg); exact op_call Tryd.call30 (ValidRoot_ok _) ⟨evS, trivial⟩)) ?_ | refine JL_i rfl rfl rfl (fun hp hg => (by have hpg := Bool.and_eq_true_iff.2 ⟨hp, hg⟩; have hg0 := hg; (try simp at hg); exact op_call Tryd.call30 (ValidRoot_ok _) ⟨evS, trivial⟩)) ?_)
  (first | refine JL_i0 rfl rfl rfl (fun hg => (by have hg0 := hg; (try simp at hg); exact op_not evG)) ?_ | refine JL_i rfl rfl rfl (fun hp hg => (by have hpg := Bool.and_eq_true_iff.2 ⟨hp, hg⟩; have hg0 := hg; (try simp at hg); exact op_not evG)) ?_)
  refine JL_1 rfl (op_or (Ev.rfl' rfl) rfl (fun h => by first | exact SubL.rfl' | exact SubL.iteT (by first | (rw [h]; rfl) | (simp_all; done)) SubL.rfl')) ?_
  refine JL_nil ?_
  refine JQ_then ?_
  refine JC_cond (Ev.rfl' rfl) (fun h15 => ?_) (fun h15 => ?_)
  · rw [read_14 hl (by revert h15; cases okK p 4 <;> cases rootB (readV p) <;> simp)]
    refine JC_seq ?_
    refine JC_region ?_
    refine JL_1 rfl (op_buildN (qs := []) rfl rfl rfl rfl trivial (by rfl) nrmT) ?_
    refine JL_s0 (op_storeN (Ev.rfl' rfl) (Ev.rfl' rfl) cellsT replT nrmT (by rfl) (by rfl) (by rfl)) ?_
    refine JL_1 rfl (op_assign rfl) ?_
    refine JL_nil ?_
    refine JQ_then (JC_ret (JQ_then_ret ?_))
    exact JQ_ret (Bs := [IsRt Rt.nil, Is (.int .i64 14)]) Tryd.results9 ⟨⟨_, _, _, _, rfl, memT, rfl, .inr ⟨rfl, _, rfl, rfl, subT⟩⟩, ⟨⟨_, rfl, subT⟩, trivial⟩⟩ () SubL.rfl' (List.nil_sublist _)
  rw [read_0 hl (by revert h15; cases okK p 4 <;> cases rootB (readV p) <;> simp)]
  refine JC_skip (JQ_then (JC_seq ?_))
  refine JC_region ?_
  refine JL_1 rfl (by first | exact op_loadRefsN (n := 11) (Ev.rfl' rfl) rfl rfl rfl (by rfl) nrmT | exact op_loadPtrsN (n := 11) (Ev.rfl' rfl) memT (by rfl) (by rfl) (by rfl) (by rfl) nrmT) ?_
  refine JL_s0 (op_storeN (Ev.rfl' rfl) (Ev.rfl' rfl) cellsT replT nrmT (by rfl) (by rfl) (by rfl)) ?_
  refine JL_1 rfl (op_assign rfl) ?_
  refine JL_nil ?_
  refine JQ_then (JC_ret ?_)
  exact JQ_ret (Bs := [IsRt (readV p), Is (.int .i64 0)]) Tryd.results9 ⟨⟨_, _, _, _, rfl, memT, rfl, .inr ⟨rfl, _, rfl, rfl, subT⟩⟩, ⟨⟨_, rfl, subT⟩, trivial⟩⟩ () SubL.rfl' (List.nil_sublist _)
end Go.Proofs.YtmcaomdjlepapaaDoor

/- Contracts: the root page is written. Own work. -/
namespace Go.Proofs.YtmcaomdjlepapaaDoor
open Go.RowKit
set_option linter.unusedVariables false
set_option linter.unusedSimpArgs false
set_option maxRecDepth 100000
@[reducible] def packW (x : BitVec 32) (y : BitVec 64) : BitVec 64 := x.setWidth 64 ||| y <<< 32
theorem pack_disj (x : BitVec 32) (y : BitVec 64) : x.setWidth 64 &&& y <<< 32 = 0#64 := by
  apply BitVec.eq_of_getLsbD_eq
  intro i hi
  simp only [BitVec.getLsbD_and, BitVec.getLsbD_setWidth, BitVec.getLsbD_shiftLeft]
  rcases Nat.lt_or_ge i 32 with h | h
  · simp [h]
  · rw [BitVec.getLsbD_of_ge x i h]; simp
theorem add_or (x : BitVec 32) (y : BitVec 64) : x.setWidth 64 + y <<< 32 = packW x y := BitVec.add_eq_or_of_and_eq_zero _ _ (pack_disj x y)
theorem pack_low (x : BitVec 32) (y : BitVec 64) : (packW x y).setWidth 32 = x := by
  apply BitVec.eq_of_getLsbD_eq
  intro i hi
  simp only [packW, BitVec.getLsbD_setWidth, BitVec.getLsbD_or, BitVec.getLsbD_shiftLeft]
  simp [hi, show i < 64 by omega]
theorem pack_high (x z : BitVec 32) : packW x (z.setWidth 64) >>> 32 = z.setWidth 64 := by
  apply BitVec.eq_of_getLsbD_eq
  intro i hi
  simp only [packW, BitVec.getLsbD_ushiftRight, BitVec.getLsbD_setWidth, BitVec.getLsbD_or, BitVec.getLsbD_shiftLeft]
  rw [BitVec.getLsbD_of_ge x (32 + i) (by omega)]
  rcases Nat.lt_or_ge i 32 with h | h
  · simp [hi, h, show 32 + i < 64 by omega, show 32 + i - 32 = i by omega]
  · rw [BitVec.getLsbD_of_ge z i h]; simp; omega
theorem setW_setW (z : BitVec 32) : (z.setWidth 64).setWidth 32 = z := by
  apply BitVec.eq_of_toNat_eq
  simp only [BitVec.toNat_setWidth]
  have := z.isLt
  omega
theorem ofInt_small64 {d : Int} (h : 0 ≤ d ∧ d ≤ 5) : BitVec.ofInt 64 d = (BitVec.ofInt 32 d).setWidth 64 := by
  apply BitVec.eq_of_toNat_eq
  simp only [BitVec.toNat_setWidth, BitVec.toNat_ofInt]
  omega
def Pg.nil : Pg := ⟨0, 0#64, 0#64, 0#64, 0#64, 0#64, 0#64, 0#64, 0#64⟩
def writeK (p : Pg) (r : Rt) (k : Nat) : Pg := ⟨p.l, p.h, p.d0, packW (packP r.first) (BitVec.ofInt 64 r.depth), if 2 ≤ k then packW (packP r.p0) ((packP r.p1).setWidth 64) else p.d2, if 4 ≤ k then packW (packP r.p2) ((packP r.p3).setWidth 64) else p.d3, p.d4, p.d5, p.d6⟩
def writeV (p : Pg) (r : Rt) : Pg := writeK p r 4
def writeR (p : Pg) (r : Rt) : Pg × Int := if (p.l != 96 || !rootB r) then (Pg.nil, 1) else (writeV p r, 0)
theorem field_back {p : Pt} (h : fieldB p = true) : unpackP (packP p) = p ∧ okW (packP p) = true := by
  by_cases hn : p = Pt.nil
  · subst hn; exact ⟨rfl, rfl⟩
  · have hv : validP p = true := by
      unfold fieldB at h
      rw [decide_eq_false hn] at h
      simpa using h
    refine ⟨unpack_pack hv, ?_⟩
    unfold okW
    rw [unpack_pack hv, hv]
    simp
theorem okAt_field {d i : Int} {p : Pt} (h : okAt d i p = true) : fieldB p = true := by
  unfold okAt at h
  simp only [Bool.and_eq_true] at h
  exact h.1
theorem back_root {p : Pg} {r : Rt} (hl : p.l = 96) (h : rootB r = true) : readR (writeV p r) = (r, 0) := by
  have hf : fieldB r.first = true ∧ fieldB r.p0 = true ∧ fieldB r.p1 = true ∧ fieldB r.p2 = true ∧ fieldB r.p3 = true ∧ 0 ≤ r.depth ∧ r.depth ≤ 5 := by
    have h1 := h
    unfold rootB at h1
    split at h1
    · have := of_decide_eq_true h1
      rw [this]
      exact ⟨rfl, rfl, rfl, rfl, rfl, by decide, by decide⟩
    · simp only [Bool.and_eq_true] at h1
      obtain ⟨⟨⟨⟨a, b0⟩, b1⟩, b2⟩, b3⟩ := h1
      unfold headR at a
      simp only [Bool.and_eq_true, decide_eq_true_eq] at a
      refine ⟨by unfold fieldB; rw [a.1.1]; simp, okAt_field b0, okAt_field b1, okAt_field b2, okAt_field b3, a.1.2, a.2⟩
  obtain ⟨h0, h1, h2, h3, h4, hd⟩ := hf
  obtain ⟨e0, o0⟩ := field_back h0
  obtain ⟨e1, o1⟩ := field_back h1
  obtain ⟨e2, o2⟩ := field_back h2
  obtain ⟨e3, o3⟩ := field_back h3
  obtain ⟨e4, o4⟩ := field_back h4
  have z0 : ∀ x : BitVec 64, x >>> 0 = x := fun x => BitVec.ushiftRight_zero x
  have d1 : (writeV p r).d1 = packW (packP r.first) ((BitVec.ofInt 32 r.depth).setWidth 64) := by
    show packW _ (BitVec.ofInt 64 r.depth) = _
    rw [ofInt_small64 hd]
  have d2 : (writeV p r).d2 = packW (packP r.p0) ((packP r.p1).setWidth 64) := rfl
  have d3 : (writeV p r).d3 = packW (packP r.p2) ((packP r.p3).setWidth 64) := rfl
  have hdep : UV ((BitVec.ofInt 32 r.depth).setWidth 64) = r.depth := by
    unfold UV
    simp only [BitVec.toNat_setWidth, BitVec.toNat_ofInt]
    omega
  have hr : readV (writeV p r) = r := by
    unfold readV w32
    rw [d1, d2, d3, z0, z0, pack_low, pack_low, pack_low, pack_high, pack_high, pack_high, setW_setW, setW_setW, e0, e1, e2, e3, e4, hdep]
  refine (read_0 (p := writeV p r) hl ?_).trans (by rw [hr])
  rw [hr, h]
  unfold okK w32
  rw [d1, d2, d3, z0, z0, pack_low, pack_low, pack_low, pack_high, pack_high, setW_setW, setW_setW, o0, o1, o2, o3, o4]
  rfl
-- hashindex.WriteRoot: function 10
set_option maxHeartbeats 4000000 in
theorem WriteRoot_ok (p : Pg) (r : Rt) : FnK Tryd.prog 10 gNone [IsPg p, IsRt r] (IsTup [IsPg (writeR p r).1, Is (.int .i64 (writeR p r).2)]) := by
  refine Fn.enterN Tryd.func10 Tryd.ntmps10 rfl rfl ?_
  intro c hX
  refine JC_seq ?_
  refine JC_region ?_
  (refine JL_n rfl (op_box (Ev.rfl' rfl) cellsT) ?_; intro i2)
  (refine JL_n rfl (op_box (Ev.rfl' rfl) cellsT) ?_; intro i3)
  (refine JL_n rfl (op_allocN rfl nrmT rfl) ?_; intro i4)
  refine JL_1 rfl (op_assign rfl) ?_
  refine JL_nil ?_
  refine JQ_then (JC_seq (JC_seq ?_))
  refine JC_region ?_
  refine JL_1 rfl (by first | exact op_fieldPtr (k := 0) (Ev.rfl' rfl) rfl rfl rfl rfl | exact op_fieldRefN (k := 0) (Ev.rfl' rfl) rfl rfl rfl rfl nrmT) ?_
  refine JL_1 rfl (by first | exact op_loadRef (Ev.rfl' rfl) rfl rfl rfl | exact op_loadPtr (Ev.rfl' rfl) memT (by rfl) (by rfl) (by rfl)) ?_
  refine JL_1 rfl (op_neq (Ev.rfl' rfl) (Ev.rfl' rfl)) ?_
  refine JL_1 rfl (op_move rfl) ?_
  (first | refine JL_i0 rfl rfl rfl (fun hg => (by have hg0 := hg; (try simp at hg); first | exact op_loadRefsN (n := 11) evG rfl rfl rfl (by rfl) nrmT | exact op_loadPtrsN (n := 11) evG memT (by rfl) (by rfl) (by rfl) (by rfl) nrmT)) ?_ | refine JL_i rfl rfl rfl (fun hp hg => (by have hpg := Bool.and_eq_true_iff.2 ⟨hp, hg⟩; have hg0 := hg; (try simp at hg); first | exact op_loadRefsN (n := 11) evG rfl rfl rfl (by rfl) nrmT | exact op_loadPtrsN (n := 11) evG memT (by rfl) (by rfl) (by rfl) (by rfl) nrmT)) ?_)
  (first | refine JL_i0 rfl rfl rfl (fun hg => (by have hg0 := hg; (try simp at hg); first | ((refine op_callK Tryd.call28 (RootValid_ok _) ⟨evS, trivial⟩ memT)))) ?_ | refine JL_i rfl rfl rfl (fun hp hg => (by have hpg := Bool.and_eq_true_iff.2 ⟨hp, hg⟩; have hg0 := hg; (try simp at hg); first | ((refine op_callK Tryd.call28 (RootValid_ok _) ⟨evS, trivial⟩ memT)))) ?_)
  (first | refine JL_i0 rfl rfl rfl (fun hg => (by have hg0 := hg; (try simp at hg); exact op_not evG)) ?_ | refine JL_i rfl rfl rfl (fun hp hg => (by have hpg := Bool.and_eq_true_iff.2 ⟨hp, hg⟩; have hg0 := hg; (try simp at hg); exact op_not evG)) ?_)
  refine JL_1 rfl (op_or (Ev.rfl' rfl) rfl (fun h => by first | exact SubL.rfl' | exact SubL.iteT (by first | (rw [h]; rfl) | (simp_all; done)) SubL.rfl')) ?_
  refine JL_nil ?_
  refine JQ_then ?_
  refine JC_cond (Ev.rfl' rfl) (fun h1 => ?_) (fun h1 => ?_)
  · have e : writeR p r = (Pg.nil, 1) := by unfold writeR; rw [if_pos h1]
    rw [e]
    refine JC_seq ?_
    refine JC_region ?_
    refine JL_1 rfl (op_buildN (qs := []) rfl rfl rfl rfl trivial (by rfl) nrmT) ?_
    refine JL_s0 (op_storeN (Ev.rfl' rfl) (Ev.rfl' rfl) cellsT replT nrmT (by rfl) (by rfl) (by rfl)) ?_
    refine JL_1 rfl (op_assign rfl) ?_
    refine JL_nil ?_
    refine JQ_then (JC_ret (JQ_then_ret ?_))
    exact JQ_ret (Bs := [IsPg Pg.nil, Is (.int .i64 1)]) Tryd.results10 ⟨⟨_, _, _, _, rfl, memT, rfl, .inr ⟨rfl, _, rfl, rfl, subT⟩⟩, ⟨⟨_, rfl, subT⟩, trivial⟩⟩ () SubL.rfl' (List.nil_sublist _)
  have e : writeR p r = (writeV p r, 0) := by unfold writeR; rw [if_neg (by rw [h1]; simp)]
  rw [e]
  refine JC_skip (JQ_then (JC_seq ?_))
  refine JC_dr rfl (by kernel_rfl) ?_
  refine JD_stretch 11 (by kernel_rfl) ?_
  refine JW_1 (by first | exact op_fieldPtr (k := 0) (Ev.rfl' rfl) rfl rfl rfl rfl | exact op_fieldRefN (k := 0) (Ev.rfl' rfl) rfl rfl rfl rfl nrmT) ?_
  refine JW_1 (by first | exact op_loadRefsN (n := 2) (Ev.rfl' rfl) rfl rfl rfl (by rfl) nrmT | exact op_loadPtrsN (n := 2) (Ev.rfl' rfl) memT (by rfl) (by rfl) (by rfl) (by rfl) nrmT) ?_
  refine JW_1 (op_call Tryd.call31 (Pack_ok _) ⟨evS, trivial⟩) ?_
  refine JW_1 (op_conv (Ev.rfl' rfl) rfl rfl convT) ?_
  refine JW_1 (by first | exact op_fieldPtr (k := 2) (Ev.rfl' rfl) rfl rfl rfl rfl | exact op_fieldRefN (k := 2) (Ev.rfl' rfl) rfl rfl rfl rfl nrmT) ?_
  refine JW_1 (by first | exact op_loadRef (Ev.rfl' rfl) rfl rfl rfl | exact op_loadPtr (Ev.rfl' rfl) memT (by rfl) (by rfl) (by rfl)) ?_
  refine JW_1 (op_conv (Ev.rfl' rfl) rfl rfl convT) ?_
  refine JW_1 (by first | exact op_shlU (k := 32) ev64 (Ev.rfl' rfl) (by first | omega | exact UV_nonneg _) idxT | exact op_shl (Ev.rfl' rfl) (Ev.rfl' rfl) (by first | omega | exact UV_nonneg _) rfl) ?_
  refine JW_1 (by first | exact op_bits ev64 ev64 (by simp) (or_u64 _ _) | exact op_bits (Ev.rfl' rfl) (Ev.rfl' rfl) (by simp) rfl) ?_
  refine JW_1 (by first | exact op_fieldPtr (k := 2) (Ev.rfl' rfl) rfl rfl rfl rfl | exact op_fieldRefN (k := 2) (Ev.rfl' rfl) rfl rfl rfl rfl nrmT) ?_
  refine JW_1 (op_indexArr (k := 1) (sz := 1) (Ev.rfl' rfl) (Ev.rfl' rfl) rfl rfl idxT (by first | decide | omega)) ?_
  refine ⟨rfl, ?_⟩
  refine JD_s0 (by kernel_rfl) rfl (op_storeN (Ev.rfl' rfl) (Ev.rfl' rfl) cellsT replT nrmT (by rfl) (by rfl) (by rfl)) ?_
  refine JD_end ?_
  refine JQ_then (JC_seq (JC_seq ?_))
  refine JC_region ?_
  refine JL_1 rfl (op_assign rfl) ?_
  refine JL_nil ?_
  refine JQ_then (JC_block ?_)
  refine JC_loopP (fun k : Nat => k = 0 ∨ k = 2 ∨ k = 4) (fun k => [(2, Is (.pointer (some ⟨i2, 0, none⟩))), (3, Is (.pointer (some ⟨i3, 0, none⟩))), (4, Is (.pointer (some ⟨i4, 0, none⟩))), (6, Is (.int .i64 (k : Nat)))]) (fun k => [blk i2 25 (tPg.cells (writeK p r k)), blk i4 25 (tPg.cells Pg.nil), blk i3 30 (tRt.cells r), gNone]) (fun k => 4 - k) 0 (Or.inl rfl) esubT lessT ?_
  rintro k hk
  refine JC_seq (JC_seq ?_)
  refine JC_region ?_
  refine JL_1 rfl (op_move rfl) ?_
  refine JL_1 rfl (op_lss (Ev.rfl' rfl) (Ev.rfl' rfl)) ?_
  refine JL_nil ?_
  refine JQ_then ?_
  refine JC_cond (Ev.rfl' rfl) (fun h5 => ?_) (fun h5 => ?_)
  · have hk4 : k = 0 ∨ k = 2 := by have := of_decide_eq_true h5; omega
    clear h5 hk
    rcases hk4 with rfl | rfl
    all_goals
      refine JC_skip (JQ_then (JC_seq (JC_block ?_)))
      refine JC_dr rfl (by kernel_rfl) ?_
      refine JD_stretch 20 (by kernel_rfl) ?_
      refine JW_1 (op_move rfl) ?_
      refine JW_1 (op_quo (Ev.rfl' rfl) (Ev.rfl' rfl) (by omega) wrapT) ?_
      refine JW_1 (op_add (Ev.rfl' rfl) (Ev.rfl' rfl) wrapT) ?_
      refine JW_1 (op_move rfl) ?_
      refine JW_1 (by first | exact op_fieldPtr (k := 3) (Ev.rfl' rfl) rfl rfl rfl rfl | exact op_fieldRefN (k := 3) (Ev.rfl' rfl) rfl rfl rfl rfl nrmT) ?_
      refine JW_1 (op_indexArr (k := _) (sz := 2) (Ev.rfl' rfl) (Ev.rfl' rfl) rfl rfl idxT (by first | decide | omega)) ?_
      refine JW_1 (by first | exact op_loadRefsN (n := 2) (Ev.rfl' rfl) rfl rfl rfl (by rfl) nrmT | exact op_loadPtrsN (n := 2) (Ev.rfl' rfl) memT (by rfl) (by rfl) (by rfl) (by rfl) nrmT) ?_
      refine JW_1 (op_call Tryd.call31 (Pack_ok _) ⟨evS, trivial⟩) ?_
      refine JW_1 (op_conv (Ev.rfl' rfl) rfl rfl convT) ?_
      refine JW_1 (op_move rfl) ?_
      refine JW_1 (op_add (Ev.rfl' rfl) (Ev.rfl' rfl) wrapT) ?_
      refine JW_1 (by first | exact op_fieldPtr (k := 3) (Ev.rfl' rfl) rfl rfl rfl rfl | exact op_fieldRefN (k := 3) (Ev.rfl' rfl) rfl rfl rfl rfl nrmT) ?_
      refine JW_1 (by first | exact op_indexArr (k := 1) (sz := 2) (Ev.rfl' rfl) (Ev.rfl' rfl) rfl rfl (by decide) (by decide) | exact op_indexArr (k := 3) (sz := 2) (Ev.rfl' rfl) (Ev.rfl' rfl) rfl rfl (by decide) (by decide)) ?_
      refine JW_1 (by first | exact op_loadRefsN (n := 2) (Ev.rfl' rfl) rfl rfl rfl (by rfl) nrmT | exact op_loadPtrsN (n := 2) (Ev.rfl' rfl) memT (by rfl) (by rfl) (by rfl) (by rfl) nrmT) ?_
      refine JW_1 (op_call Tryd.call31 (Pack_ok _) ⟨evS, trivial⟩) ?_
      refine JW_1 (op_conv (Ev.rfl' rfl) rfl rfl convT) ?_
      refine JW_1 (by first | exact op_shlU (k := 32) ev64 (Ev.rfl' rfl) (by first | omega | exact UV_nonneg _) idxT | exact op_shl (Ev.rfl' rfl) (Ev.rfl' rfl) (by first | omega | exact UV_nonneg _) rfl) ?_
      refine JW_1 (by first | exact op_bits ev64 ev64 (by simp) (or_u64 _ _) | exact op_bits (Ev.rfl' rfl) (Ev.rfl' rfl) (by simp) rfl) ?_
      refine JW_1 (by first | exact op_fieldPtr (k := 2) (Ev.rfl' rfl) rfl rfl rfl rfl | exact op_fieldRefN (k := 2) (Ev.rfl' rfl) rfl rfl rfl rfl nrmT) ?_
      refine JW_1 (by first | exact op_indexArr (k := 2) (sz := 1) (Ev.rfl' rfl) (Ev.rfl' rfl) rfl rfl (by decide) (by decide) | exact op_indexArr (k := 3) (sz := 1) (Ev.rfl' rfl) (Ev.rfl' rfl) rfl rfl (by decide) (by decide)) ?_
      refine ⟨rfl, ?_⟩
      refine JD_s0 (by kernel_rfl) rfl (op_storeN (Ev.rfl' rfl) (Ev.rfl' rfl) cellsT replT nrmT (by rfl) (by rfl) (by rfl)) ?_
      refine JD_end ?_
      refine JQ_block (JQ_then ?_)
      refine JC_region ?_
      refine JL_1 rfl (op_move rfl) ?_
      refine JL_1 rfl (op_add (Ev.rfl' rfl) (Ev.rfl' rfl) wrapT) ?_
      refine JL_1 rfl (op_assign rfl) ?_
      refine JL_nil ?_
      first | exact JQ_roundP 2 (by omega) (by omega) esubT lessT | exact JQ_roundP 4 (by omega) (by omega) esubT lessT
  have hk4 : k = 4 := by have := of_decide_eq_false h5; omega
  subst hk4
  refine JC_exit (JQ_then_exit (JQ_then_exit (JQ_hit (JQ_then (JC_seq ?_)))))
  refine JC_region ?_
  refine JL_1 rfl (by first | exact op_loadRefsN (n := 9) (Ev.rfl' rfl) rfl rfl rfl (by rfl) nrmT | exact op_loadPtrsN (n := 9) (Ev.rfl' rfl) memT (by rfl) (by rfl) (by rfl) (by rfl) nrmT) ?_
  refine JL_s0 (op_storeN (Ev.rfl' rfl) (Ev.rfl' rfl) cellsT replT nrmT (by rfl) (by rfl) (by rfl)) ?_
  refine JL_1 rfl (op_assign rfl) ?_
  refine JL_nil ?_
  refine JQ_then (JC_ret ?_)
  exact JQ_ret (Bs := [IsPg (writeV p r), Is (.int .i64 0)]) Tryd.results10 ⟨⟨_, _, _, _, rfl, memT, rfl, .inr ⟨rfl, _, rfl, rfl, subT⟩⟩, ⟨⟨_, rfl, subT⟩, trivial⟩⟩ () SubL.rfl' (List.nil_sublist _)
-- bodegaref23.WriteRoot: function 11
set_option maxHeartbeats 4000000 in
theorem WriteRootR_ok (p : Pg) (r : Rt) : FnP Tryd.prog 11 [IsPg p, IsRt r] (IsTup [IsPg (writeR p r).1, Is (.int .i64 (writeR p r).2)]) := by
  refine FnP.enter Tryd.func11 Tryd.ntmps11 rfl rfl ?_
  intro c hX
  refine JC_seq ?_
  refine JC_region ?_
  (refine JL_n rfl (op_box (Ev.rfl' rfl) cellsT) ?_; intro i2)
  (refine JL_n rfl (op_box (Ev.rfl' rfl) cellsT) ?_; intro i3)
  (refine JL_n rfl (op_allocN rfl nrmT rfl) ?_; intro i4)
  refine JL_1 rfl (op_assign rfl) ?_
  refine JL_nil ?_
  refine JQ_then (JC_seq (JC_seq ?_))
  refine JC_region ?_
  refine JL_1 rfl (by first | exact op_fieldPtr (k := 0) (Ev.rfl' rfl) rfl rfl rfl rfl | exact op_fieldRefN (k := 0) (Ev.rfl' rfl) rfl rfl rfl rfl nrmT) ?_
  refine JL_1 rfl (by first | exact op_loadRef (Ev.rfl' rfl) rfl rfl rfl | exact op_loadPtr (Ev.rfl' rfl) memT (by rfl) (by rfl) (by rfl)) ?_
  refine JL_1 rfl (op_neq (Ev.rfl' rfl) (Ev.rfl' rfl)) ?_
  refine JL_1 rfl (op_move rfl) ?_
  (first | refine JL_i0 rfl rfl rfl (fun hg => (by have hg0 := hg; (try simp at hg); first | exact op_loadRefsN (n := 11) evG rfl rfl rfl (by rfl) nrmT | exact op_loadPtrsN (n := 11) evG memT (by rfl) (by rfl) (by rfl) (by rfl) nrmT)) ?_ | refine JL_i rfl rfl rfl (fun hp hg => (by have hpg := Bool.and_eq_true_iff.2 ⟨hp, hg⟩; have hg0 := hg; (try simp at hg); first | exact op_loadRefsN (n := 11) evG rfl rfl rfl (by rfl) nrmT | exact op_loadPtrsN (n := 11) evG memT (by rfl) (by rfl) (by rfl) (by rfl) nrmT)) ?_)
  (first | refine JL_i0 rfl rfl rfl (fun hg => (by have hg0 := hg; (try simp at hg); exact op_call Tryd.call30 (ValidRoot_ok _) ⟨evS, trivial⟩)) ?_ | refine JL_i rfl rfl rfl (fun hp hg => (by have hpg := Bool.and_eq_true_iff.2 ⟨hp, hg⟩; have hg0 := hg; (try simp at hg); exact op_call Tryd.call30 (ValidRoot_ok _) ⟨evS, trivial⟩)) ?_)
  (first | refine JL_i0 rfl rfl rfl (fun hg => (by have hg0 := hg; (try simp at hg); exact op_not evG)) ?_ | refine JL_i rfl rfl rfl (fun hp hg => (by have hpg := Bool.and_eq_true_iff.2 ⟨hp, hg⟩; have hg0 := hg; (try simp at hg); exact op_not evG)) ?_)
  refine JL_1 rfl (op_or (Ev.rfl' rfl) rfl (fun h => by first | exact SubL.rfl' | exact SubL.iteT (by first | (rw [h]; rfl) | (simp_all; done)) SubL.rfl')) ?_
  refine JL_nil ?_
  refine JQ_then ?_
  refine JC_cond (Ev.rfl' rfl) (fun h1 => ?_) (fun h1 => ?_)
  · have e : writeR p r = (Pg.nil, 1) := by unfold writeR; rw [if_pos h1]
    rw [e]
    refine JC_seq ?_
    refine JC_region ?_
    refine JL_1 rfl (op_buildN (qs := []) rfl rfl rfl rfl trivial (by rfl) nrmT) ?_
    refine JL_s0 (op_storeN (Ev.rfl' rfl) (Ev.rfl' rfl) cellsT replT nrmT (by rfl) (by rfl) (by rfl)) ?_
    refine JL_1 rfl (op_assign rfl) ?_
    refine JL_nil ?_
    refine JQ_then (JC_ret (JQ_then_ret ?_))
    exact JQ_ret (Bs := [IsPg Pg.nil, Is (.int .i64 1)]) Tryd.results11 ⟨⟨_, _, _, _, rfl, memT, rfl, .inr ⟨rfl, _, rfl, rfl, subT⟩⟩, ⟨⟨_, rfl, subT⟩, trivial⟩⟩ () SubL.rfl' (List.nil_sublist _)
  have e : writeR p r = (writeV p r, 0) := by unfold writeR; rw [if_neg (by rw [h1]; simp)]
  rw [e]
  refine JC_skip (JQ_then (JC_seq ?_))
  refine JC_region ?_
  refine JL_1 rfl (by first | exact op_loadRefsN (n := 9) (Ev.rfl' rfl) rfl rfl rfl (by rfl) nrmT | exact op_loadPtrsN (n := 9) (Ev.rfl' rfl) memT (by rfl) (by rfl) (by rfl) (by rfl) nrmT) ?_
  (refine JL_n rfl (op_allocN rfl nrmT rfl) ?_; intro i6)
  refine JL_s0 (op_storeN (Ev.rfl' rfl) (Ev.rfl' rfl) cellsT replT nrmT (by rfl) (by rfl) (by rfl)) ?_
  refine JL_nil ?_
  refine JQ_then (JC_seq ?_)
  refine JC_dr rfl (by kernel_rfl) ?_
  refine JD_stretch 11 (by kernel_rfl) ?_
  refine JW_1 (by first | exact op_fieldPtr (k := 0) (Ev.rfl' rfl) rfl rfl rfl rfl | exact op_fieldRefN (k := 0) (Ev.rfl' rfl) rfl rfl rfl rfl nrmT) ?_
  refine JW_1 (by first | exact op_loadRefsN (n := 2) (Ev.rfl' rfl) rfl rfl rfl (by rfl) nrmT | exact op_loadPtrsN (n := 2) (Ev.rfl' rfl) memT (by rfl) (by rfl) (by rfl) (by rfl) nrmT) ?_
  refine JW_1 (op_call Tryd.call32 (PackR_ok _) ⟨evS, trivial⟩) ?_
  refine JW_1 (op_conv (Ev.rfl' rfl) rfl rfl convT) ?_
  refine JW_1 (by first | exact op_fieldPtr (k := 2) (Ev.rfl' rfl) rfl rfl rfl rfl | exact op_fieldRefN (k := 2) (Ev.rfl' rfl) rfl rfl rfl rfl nrmT) ?_
  refine JW_1 (by first | exact op_loadRef (Ev.rfl' rfl) rfl rfl rfl | exact op_loadPtr (Ev.rfl' rfl) memT (by rfl) (by rfl) (by rfl)) ?_
  refine JW_1 (op_conv (Ev.rfl' rfl) rfl rfl convT) ?_
  refine JW_1 (by first | exact op_shlU (k := 32) ev64 (Ev.rfl' rfl) (by first | omega | exact UV_nonneg _) idxT | exact op_shl (Ev.rfl' rfl) (Ev.rfl' rfl) (by first | omega | exact UV_nonneg _) rfl) ?_
  refine JW_1 (by first | exact op_binU ev64 ev64 (add_u64 _ _ _) | exact op_add (Ev.rfl' rfl) (Ev.rfl' rfl) wrapT) ?_
  refine JW_1 (by first | exact op_fieldPtr (k := 2) (Ev.rfl' rfl) rfl rfl rfl rfl | exact op_fieldRefN (k := 2) (Ev.rfl' rfl) rfl rfl rfl rfl nrmT) ?_
  refine JW_1 (op_indexArr (k := 1) (sz := 1) (Ev.rfl' rfl) (Ev.rfl' rfl) rfl rfl idxT (by first | decide | omega)) ?_
  refine ⟨rfl, ?_⟩
  refine JD_s0 (by kernel_rfl) rfl (op_storeN (Ev.rfl' rfl) (Ev.rfl' rfl) cellsT replT nrmT (by rfl) (by rfl) (by rfl)) ?_
  refine JD_end ?_
  refine JQ_then (JC_seq (JC_seq ?_))
  rw [add_or]
  refine JC_region ?_
  refine JL_1 rfl (op_assign rfl) ?_
  refine JL_nil ?_
  refine JQ_then (JC_block ?_)
  refine JC_loopP (fun k : Nat => k ≤ 2) (fun k => [(3, Is (.pointer (some ⟨i3, 0, none⟩))), (4, Is (.pointer (some ⟨i4, 0, none⟩))), (6, Is (.pointer (some ⟨i6, 0, none⟩))), (7, Is (.int .i64 (k : Nat)))]) (fun k => [blk i6 25 (tPg.cells (writeK p r (2 * k))), blk i4 25 (tPg.cells Pg.nil), blk i3 39 (tRt.cells r)]) (fun k => 2 - k) 0 (Nat.zero_le _) esubT lessT ?_
  rintro k hk
  refine JC_seq (JC_seq ?_)
  refine JC_region ?_
  refine JL_1 rfl (op_move rfl) ?_
  refine JL_1 rfl (op_lss (Ev.rfl' rfl) (Ev.rfl' rfl)) ?_
  refine JL_nil ?_
  refine JQ_then ?_
  refine JC_cond (Ev.rfl' rfl) (fun h6 => ?_) (fun h6 => ?_)
  · have hk4 : k = 0 ∨ k = 1 := by have := of_decide_eq_true h6; omega
    clear h6
    rcases hk4 with rfl | rfl
    all_goals
      refine JC_skip (JQ_then (JC_seq (JC_block ?_)))
      refine JC_dr rfl (by kernel_rfl) ?_
      refine JD_stretch 21 (by kernel_rfl) ?_
      refine JW_1 (op_move rfl) ?_
      refine JW_1 (op_add (Ev.rfl' rfl) (Ev.rfl' rfl) wrapT) ?_
      refine JW_1 (op_move rfl) ?_
      refine JW_1 (op_mul (Ev.rfl' rfl) (Ev.rfl' rfl) wrapT) ?_
      refine JW_1 (by first | exact op_fieldPtr (k := 3) (Ev.rfl' rfl) rfl rfl rfl rfl | exact op_fieldRefN (k := 3) (Ev.rfl' rfl) rfl rfl rfl rfl nrmT) ?_
      refine JW_1 (by first | exact op_indexArr (k := 0) (sz := 2) (Ev.rfl' rfl) (Ev.rfl' rfl) rfl rfl (by decide) (by decide) | exact op_indexArr (k := 2) (sz := 2) (Ev.rfl' rfl) (Ev.rfl' rfl) rfl rfl (by decide) (by decide)) ?_
      refine JW_1 (by first | exact op_loadRefsN (n := 2) (Ev.rfl' rfl) rfl rfl rfl (by rfl) nrmT | exact op_loadPtrsN (n := 2) (Ev.rfl' rfl) memT (by rfl) (by rfl) (by rfl) (by rfl) nrmT) ?_
      refine JW_1 (op_call Tryd.call32 (PackR_ok _) ⟨evS, trivial⟩) ?_
      refine JW_1 (op_conv (Ev.rfl' rfl) rfl rfl convT) ?_
      refine JW_1 (op_move rfl) ?_
      refine JW_1 (op_mul (Ev.rfl' rfl) (Ev.rfl' rfl) wrapT) ?_
      refine JW_1 (op_add (Ev.rfl' rfl) (Ev.rfl' rfl) wrapT) ?_
      refine JW_1 (by first | exact op_fieldPtr (k := 3) (Ev.rfl' rfl) rfl rfl rfl rfl | exact op_fieldRefN (k := 3) (Ev.rfl' rfl) rfl rfl rfl rfl nrmT) ?_
      refine JW_1 (by first | exact op_indexArr (k := 1) (sz := 2) (Ev.rfl' rfl) (Ev.rfl' rfl) rfl rfl (by decide) (by decide) | exact op_indexArr (k := 3) (sz := 2) (Ev.rfl' rfl) (Ev.rfl' rfl) rfl rfl (by decide) (by decide)) ?_
      refine JW_1 (by first | exact op_loadRefsN (n := 2) (Ev.rfl' rfl) rfl rfl rfl (by rfl) nrmT | exact op_loadPtrsN (n := 2) (Ev.rfl' rfl) memT (by rfl) (by rfl) (by rfl) (by rfl) nrmT) ?_
      refine JW_1 (op_call Tryd.call32 (PackR_ok _) ⟨evS, trivial⟩) ?_
      refine JW_1 (op_conv (Ev.rfl' rfl) rfl rfl convT) ?_
      refine JW_1 (by first | exact op_shlU (k := 32) ev64 (Ev.rfl' rfl) (by first | omega | exact UV_nonneg _) idxT | exact op_shl (Ev.rfl' rfl) (Ev.rfl' rfl) (by first | omega | exact UV_nonneg _) rfl) ?_
      refine JW_1 (by first | exact op_binU ev64 ev64 (add_u64 _ _ _) | exact op_add (Ev.rfl' rfl) (Ev.rfl' rfl) wrapT) ?_
      refine JW_1 (by first | exact op_fieldPtr (k := 2) (Ev.rfl' rfl) rfl rfl rfl rfl | exact op_fieldRefN (k := 2) (Ev.rfl' rfl) rfl rfl rfl rfl nrmT) ?_
      refine JW_1 (by first | exact op_indexArr (k := 2) (sz := 1) (Ev.rfl' rfl) (Ev.rfl' rfl) rfl rfl (by decide) (by decide) | exact op_indexArr (k := 3) (sz := 1) (Ev.rfl' rfl) (Ev.rfl' rfl) rfl rfl (by decide) (by decide)) ?_
      refine ⟨rfl, ?_⟩
      refine JD_s0 (by kernel_rfl) rfl (op_storeN (Ev.rfl' rfl) (Ev.rfl' rfl) cellsT replT nrmT (by rfl) (by rfl) (by rfl)) ?_
      refine JD_end ?_
      refine JQ_block (JQ_then ?_)
      rw [add_or]
      refine JC_region ?_
      refine JL_1 rfl (op_move rfl) ?_
      refine JL_1 rfl (op_add (Ev.rfl' rfl) (Ev.rfl' rfl) wrapT) ?_
      refine JL_1 rfl (op_assign rfl) ?_
      refine JL_nil ?_
      first | exact JQ_roundP 1 (by omega) (by omega) esubT lessT | exact JQ_roundP 2 (by omega) (by omega) esubT lessT
  have hk4 : k = 2 := by have := of_decide_eq_false h6; omega
  subst hk4
  refine JC_exit (JQ_then_exit (JQ_then_exit (JQ_hit (JQ_then (JC_seq ?_)))))
  refine JC_region ?_
  refine JL_1 rfl (by first | exact op_loadRefsN (n := 9) (Ev.rfl' rfl) rfl rfl rfl (by rfl) nrmT | exact op_loadPtrsN (n := 9) (Ev.rfl' rfl) memT (by rfl) (by rfl) (by rfl) (by rfl) nrmT) ?_
  refine JL_s0 (op_storeN (Ev.rfl' rfl) (Ev.rfl' rfl) cellsT replT nrmT (by rfl) (by rfl) (by rfl)) ?_
  refine JL_1 rfl (op_assign rfl) ?_
  refine JL_nil ?_
  refine JQ_then (JC_ret ?_)
  exact JQ_ret (Bs := [IsPg (writeV p r), Is (.int .i64 0)]) Tryd.results11 ⟨⟨_, _, _, _, rfl, memT, rfl, .inr ⟨rfl, _, rfl, rfl, subT⟩⟩, ⟨⟨_, rfl, subT⟩, trivial⟩⟩ () SubL.rfl' (List.nil_sublist _)
end Go.Proofs.YtmcaomdjlepapaaDoor

/- The contract of bodegahand.Pick: the remainder that is not negative. Own work. -/
namespace Go.Proofs.YtmcaomdjlepapaaDoor
open Go.RowKit
set_option linter.unusedVariables false
set_option linter.unusedSimpArgs false
theorem pick_emod (n k : Int) (h : 1 ≤ k) : (n.tmod k + k) % k = n % k := by
  rw [Int.add_emod_right, Int.tmod_eq_emod]
  split
  · show (n % k - 0) % k = _; rw [Int.sub_zero, Int.emod_emod_of_dvd _ (Int.dvd_refl k)]
  · rw [Int.natAbs_of_nonneg (by omega), Int.sub_emod, Int.emod_self]; simp
theorem Pick_any (n k : Int) (w : World) (hb : 1 ≤ k) (hb2 : k ≤ 4611686018427387903) :
    Calls Tryd.prog 6 #[.int .i64 n, .int .i64 k] w fun e w' => e = .returned (.int .i64 (n % k)) ∧ w = w' := by
  have h1 := Int.tmod_lt_of_pos n (show 0 < k by omega)
  have h2 := Int.lt_tmod_of_pos n (show 0 < k by omega)
  have H := Lib.hid (pick_emod n k hb)
  go_enter Tryd.func6, Tryd.ntmps6
  go_wp2
  go_ret
  refine ⟨?_, rfl⟩
  rw [← H.out]
  rfl
/-- The same, the remainder as a new number. -/
theorem Pick_ex (n k : Int) (w : World) (hb : 1 ≤ k) (hb2 : k ≤ 4611686018427387903) :
    Calls Tryd.prog 6 #[.int .i64 n, .int .i64 k] w fun e w' => ∃ r : Int, e = .returned (.int .i64 r) ∧ 0 ≤ r ∧ r < k ∧ Hid (r = n % k) ∧ w = w' :=
  (Pick_any n k w hb hb2).mono fun e w' ⟨he, hw⟩ => ⟨n % k, he, Int.emod_nonneg _ (by omega), Int.emod_lt_of_pos _ (by omega), rfl, hw⟩
/-- Inside a region that draws: the remainder as a new natural number. -/
theorem call_pick {W : World} {K : Value → Prop} (n k : Int) (hb : 1 ≤ k) (hb2 : k ≤ 4611686018427387903) (h : ∀ j : Nat, (j : Int) < k → Hid ((j : Int) = n % k) → K (.int .i64 (j : Int))) :
    ∃ v, Calls Tryd.prog 6 #[.int .i64 n, .int .i64 k] W (fun e w'' => e = .returned v ∧ w'' = W) ∧ K v := by
  obtain ⟨j, hj⟩ := Int.eq_ofNat_of_zero_le (Int.emod_nonneg n (show k ≠ 0 by omega))
  have hlt := Int.emod_lt_of_pos n (show 0 < k by omega)
  refine ⟨_, (Pick_any n k W hb hb2).mono fun e w' ⟨he, hw⟩ => ⟨he, hw.symm⟩, ?_⟩
  rw [hj]
  exact h j (by omega) hj.symm
end Go.Proofs.YtmcaomdjlepapaaDoor

/- Contracts: what the law makes of roots and pages. Own work. -/
namespace Go.Proofs.YtmcaomdjlepapaaDoor
open Go.RowKit
set_option linter.unusedVariables false
set_option linter.unusedSimpArgs false
set_option maxRecDepth 100000
-- bodegalaw23.ref: function 33
theorem ref_ok (p : Pt) : FnP Tryd.prog 33 [IsPt p] (IsPt p) := by
  refine FnP.enter Tryd.func33 Tryd.ntmps33 rfl rfl ?_
  intro c hX
  refine JC_seq ?_
  refine JC_region ?_
  (refine JL_n rfl (op_box (Ev.rfl' rfl) cellsT) ?_; intro i1)
  (refine JL_n rfl (op_allocN rfl nrmT rfl) ?_; intro i2)
  refine JL_nil ?_
  refine JQ_then (JC_seq ?_)
  refine JC_region ?_
  refine JL_1 rfl (by first | exact op_fieldPtr (k := 0) (Ev.rfl' rfl) rfl rfl rfl rfl | exact op_fieldRefN (k := 0) (Ev.rfl' rfl) rfl rfl rfl rfl nrmT) ?_
  refine JL_1 rfl (by first | exact op_loadRef (Ev.rfl' rfl) rfl rfl rfl | exact op_loadPtr (Ev.rfl' rfl) memT (by rfl) (by rfl) (by rfl)) ?_
  refine JL_1 rfl (by first | exact op_fieldPtr (k := 1) (Ev.rfl' rfl) rfl rfl rfl rfl | exact op_fieldRefN (k := 1) (Ev.rfl' rfl) rfl rfl rfl rfl nrmT) ?_
  refine JL_1 rfl (by first | exact op_loadRef (Ev.rfl' rfl) rfl rfl rfl | exact op_loadPtr (Ev.rfl' rfl) memT (by rfl) (by rfl) (by rfl)) ?_
  refine JL_1 rfl (op_buildN (qs := [(0, _), (1, _)]) rfl rfl rfl rfl ⟨⟨rfl, _, (Ev.rfl' rfl), cellsT⟩, ⟨⟨rfl, _, (Ev.rfl' rfl), cellsT⟩, trivial⟩⟩ (by rfl) nrmT) ?_
  refine JL_s0 (op_storeN (Ev.rfl' rfl) (Ev.rfl' rfl) cellsT replT nrmT (by rfl) (by rfl) (by rfl)) ?_
  refine JL_nil ?_
  refine JQ_then (JC_ret ?_)
  exact JQ_ret (Bs := [IsPt p]) Tryd.results33 ⟨⟨_, _, _, _, rfl, memT, rfl, .inr ⟨rfl, _, rfl, rfl, subT⟩⟩, trivial⟩ () SubL.rfl' (List.nil_sublist _)
theorem pick_tmod (n k : Int) (h : 1 ≤ k) : (n.tmod k + k).tmod k = n % k := by
  have h2 := Int.lt_tmod_of_pos n (show 0 < k by omega)
  rw [Int.tmod_eq_emod_of_nonneg (by omega), pick_emod n k h]
-- bodegahand.Pick: function 6
theorem PickH_ok (n k : Int) (hb : 1 ≤ k) (hb2 : k ≤ 4611686018427387903) : FnP Tryd.prog 6 [Is (.int .i64 n), Is (.int .i64 k)] (Is (.int .i64 (n % k))) := by
  have h1 := Int.tmod_lt_of_pos n (show 0 < k by omega)
  have h2 := Int.lt_tmod_of_pos n (show 0 < k by omega)
  refine FnP.enter Tryd.func6 Tryd.ntmps6 rfl rfl ?_
  intro c hX
  (repeat (first | with_reducible refine JC_seq ?_ | with_reducible refine JQ_then ?_ | with_reducible refine JC_block ?_ | with_reducible refine JC_skip ?_ | with_reducible refine JC_exit ?_ | with_reducible refine JQ_then_exit ?_ | with_reducible refine JQ_then_ret ?_ | with_reducible refine JQ_block ?_ | with_reducible refine JQ_block_ret ?_ | with_reducible refine JQ_hit ?_ | ((with_reducible refine JQ_block_miss ?_ ?_); (focus exact rfl)) | with_reducible refine JC_ret ?_ | with_reducible refine JQ_end ?_))
  refine JC_region ?_
  refine JL_1 rfl (op_assign rfl) ?_
  refine JL_nil ?_
  (repeat (first | with_reducible refine JC_seq ?_ | with_reducible refine JQ_then ?_ | with_reducible refine JC_block ?_ | with_reducible refine JC_skip ?_ | with_reducible refine JC_exit ?_ | with_reducible refine JQ_then_exit ?_ | with_reducible refine JQ_then_ret ?_ | with_reducible refine JQ_block ?_ | with_reducible refine JQ_block_ret ?_ | with_reducible refine JQ_hit ?_ | ((with_reducible refine JQ_block_miss ?_ ?_); (focus exact rfl)) | with_reducible refine JC_ret ?_ | with_reducible refine JQ_end ?_))
  (repeat (first | with_reducible refine JC_seq ?_ | with_reducible refine JQ_then ?_ | with_reducible refine JC_block ?_ | with_reducible refine JC_skip ?_ | with_reducible refine JC_exit ?_ | with_reducible refine JQ_then_exit ?_ | with_reducible refine JQ_then_ret ?_ | with_reducible refine JQ_block ?_ | with_reducible refine JQ_block_ret ?_ | with_reducible refine JQ_hit ?_ | ((with_reducible refine JQ_block_miss ?_ ?_); (focus exact rfl)) | with_reducible refine JC_ret ?_ | with_reducible refine JQ_end ?_))
  refine JC_region ?_
  refine JL_1 rfl (op_move rfl) ?_
  refine JL_1 rfl (op_lss (Ev.rfl' rfl) (Ev.rfl' rfl)) ?_
  refine JL_nil ?_
  (repeat (first | with_reducible refine JC_seq ?_ | with_reducible refine JQ_then ?_ | with_reducible refine JC_block ?_ | with_reducible refine JC_skip ?_ | with_reducible refine JC_exit ?_ | with_reducible refine JQ_then_exit ?_ | with_reducible refine JQ_then_ret ?_ | with_reducible refine JQ_block ?_ | with_reducible refine JQ_block_ret ?_ | with_reducible refine JQ_hit ?_ | ((with_reducible refine JQ_block_miss ?_ ?_); (focus exact rfl)) | with_reducible refine JC_ret ?_ | with_reducible refine JQ_end ?_))
  refine JC_cond (Ev.rfl' rfl) (fun h => absurd (of_decide_eq_true h) (by omega)) (fun h => ?_)
  (repeat (first | with_reducible refine JC_seq ?_ | with_reducible refine JQ_then ?_ | with_reducible refine JC_block ?_ | with_reducible refine JC_skip ?_ | with_reducible refine JC_exit ?_ | with_reducible refine JQ_then_exit ?_ | with_reducible refine JQ_then_ret ?_ | with_reducible refine JQ_block ?_ | with_reducible refine JQ_block_ret ?_ | with_reducible refine JQ_hit ?_ | ((with_reducible refine JQ_block_miss ?_ ?_); (focus exact rfl)) | with_reducible refine JC_ret ?_ | with_reducible refine JQ_end ?_))
  refine JC_region ?_
  refine JL_1 rfl (op_move rfl) ?_
  refine JL_1 rfl (op_move rfl) ?_
  refine JL_1 rfl (op_rem (Ev.rfl' rfl) (Ev.rfl' rfl) (by omega) rfl) ?_
  refine JL_1 rfl (op_move rfl) ?_
  refine JL_1 rfl (op_add (Ev.rfl' rfl) (Ev.rfl' rfl) wrapT) ?_
  refine JL_1 rfl (op_move rfl) ?_
  refine JL_1 rfl (op_rem (Ev.rfl' rfl) (Ev.rfl' rfl) (by omega) rfl) ?_
  refine JL_1 rfl (op_assign rfl) ?_
  refine JL_nil ?_
  (repeat (first | with_reducible refine JC_seq ?_ | with_reducible refine JQ_then ?_ | with_reducible refine JC_block ?_ | with_reducible refine JC_skip ?_ | with_reducible refine JC_exit ?_ | with_reducible refine JQ_then_exit ?_ | with_reducible refine JQ_then_ret ?_ | with_reducible refine JQ_block ?_ | with_reducible refine JQ_block_ret ?_ | with_reducible refine JQ_hit ?_ | ((with_reducible refine JQ_block_miss ?_ ?_); (focus exact rfl)) | with_reducible refine JC_ret ?_ | with_reducible refine JQ_end ?_))
  exact JQ_ret1 Tryd.results6 rfl () (SubL.eq (by rw [pick_tmod n k hb])) (List.nil_sublist _)
-- bodegalaw23.aim: function 7
theorem aim_ok (p : Pt) : FnP Tryd.prog 7 [IsPt p] (VEx fun q : Pt => IsPt q) := by
  refine FnP.enter Tryd.func7 Tryd.ntmps7 rfl rfl ?_
  intro c hX
  refine JC_seq ?_
  refine JC_region ?_
  (refine JL_n rfl (op_box (Ev.rfl' rfl) cellsT) ?_; intro i1)
  (refine JL_n rfl (op_allocN rfl nrmT rfl) ?_; intro i2)
  refine JL_nil ?_
  refine JQ_then (JC_seq (JC_seq ?_))
  refine JC_region ?_
  refine JL_1 rfl (by first | exact op_fieldPtr (k := 1) (Ev.rfl' rfl) rfl rfl rfl rfl | exact op_fieldRefN (k := 1) (Ev.rfl' rfl) rfl rfl rfl rfl nrmT) ?_
  refine JL_1 rfl (by first | exact op_loadRef (Ev.rfl' rfl) rfl rfl rfl | exact op_loadPtr (Ev.rfl' rfl) memT (by rfl) (by rfl) (by rfl)) ?_
  refine JL_1 rfl (op_rem (Ev.rfl' rfl) (Ev.rfl' rfl) (by omega) rfl) ?_
  refine JL_1 rfl (op_eql (Ev.rfl' rfl) (Ev.rfl' rfl)) ?_
  refine JL_nil ?_
  refine JQ_then ?_
  refine JC_cond (Ev.rfl' rfl) (fun h1 => ?_) (fun h1 => ?_)
  · refine JC_seq ?_
    refine JC_region ?_
    refine JL_1 rfl (op_buildN (qs := []) rfl rfl rfl rfl trivial (by rfl) nrmT) ?_
    refine JL_s0 (op_storeN (Ev.rfl' rfl) (Ev.rfl' rfl) cellsT replT nrmT (by rfl) (by rfl) (by rfl)) ?_
    refine JL_nil ?_
    refine JQ_then (JC_ret (JQ_then_ret ?_))
    exact JQ_ret (Bs := [IsPt Pt.nil]) Tryd.results7 ⟨⟨_, _, _, _, rfl, memT, rfl, .inr ⟨rfl, _, rfl, rfl, subT⟩⟩, trivial⟩ () (fun φ v f h => ⟨Pt.nil, h⟩) (List.nil_sublist _)
  refine JC_skip (JQ_then (JC_seq ?_))
  refine JC_dr rfl (by kernel_rfl) ?_
  refine JD_stretch 8 (by kernel_rfl) ?_
  refine JW_1 (by first | exact op_fieldPtr (k := 0) (Ev.rfl' rfl) rfl rfl rfl rfl | exact op_fieldRefN (k := 0) (Ev.rfl' rfl) rfl rfl rfl rfl nrmT) ?_
  refine JW_1 (by first | exact op_loadRef (Ev.rfl' rfl) rfl rfl rfl | exact op_loadPtr (Ev.rfl' rfl) memT (by rfl) (by rfl) (by rfl)) ?_
  refine JW_1 (by first | ((refine op_call Tryd.call6 (PickH_ok _ _ ?_ ?_) ⟨evS, ⟨evS, trivial⟩⟩); all_goals (first | omega))) ?_
  refine JW_1 (op_add (Ev.rfl' rfl) (Ev.rfl' rfl) wrapT) ?_
  refine JW_1 (by first | exact op_fieldPtr (k := 1) (Ev.rfl' rfl) rfl rfl rfl rfl | exact op_fieldRefN (k := 1) (Ev.rfl' rfl) rfl rfl rfl rfl nrmT) ?_
  refine JW_1 (by first | exact op_loadRef (Ev.rfl' rfl) rfl rfl rfl | exact op_loadPtr (Ev.rfl' rfl) memT (by rfl) (by rfl) (by rfl)) ?_
  refine JW_1 (by first | ((refine op_call Tryd.call6 (PickH_ok _ _ ?_ ?_) ⟨evS, ⟨evS, trivial⟩⟩); all_goals (first | omega))) ?_
  refine JW_1 (op_buildN (qs := [(0, _), (1, _)]) rfl rfl rfl rfl ⟨⟨rfl, _, (Ev.rfl' rfl), cellsT⟩, ⟨⟨rfl, _, (Ev.rfl' rfl), cellsT⟩, trivial⟩⟩ (by rfl) nrmT) ?_
  refine ⟨rfl, ?_⟩
  refine JD_s0 (by kernel_rfl) rfl (op_storeN (Ev.rfl' rfl) (Ev.rfl' rfl) cellsT replT nrmT (by rfl) (by rfl) (by rfl)) ?_
  refine JD_end ?_
  refine JQ_then (JC_ret ?_)
  exact JQ_ret (Bs := [IsPt ⟨103 + p.line % 154, p.gen % 8⟩]) Tryd.results7 ⟨⟨_, _, _, _, rfl, memT, rfl, .inr ⟨rfl, _, rfl, rfl, subT⟩⟩, trivial⟩ () (fun φ v f h => ⟨⟨103 + p.line % 154, p.gen % 8⟩, h⟩) (List.nil_sublist _)
-- hashindex.Hash: function 20
theorem Hash_ok (x : BitVec 32) : FnP Tryd.prog 20 [Is (.int .u32 (UV x))] (Is (.int .u32 (UV ((x * 2654435769#32) ^^^ (x * 2654435769#32) >>> 16)))) := by
  refine FnP.enter Tryd.func20 Tryd.ntmps20 rfl rfl ?_
  intro c hX
  refine JC_seq ?_
  refine JC_region ?_
  refine JL_1 rfl (op_assign rfl) ?_
  refine JL_nil ?_
  refine JQ_then (JC_seq ?_)
  refine JC_region ?_
  refine JL_1 rfl (op_move rfl) ?_
  refine JL_1 rfl (by first | exact op_binU ev32 ev32 (mul_u32 _ _ _) | exact op_mul (Ev.rfl' rfl) (Ev.rfl' rfl) wrapT) ?_
  refine JL_1 rfl (op_assign rfl) ?_
  refine JL_nil ?_
  refine JQ_then (JC_seq ?_)
  refine JC_region ?_
  refine JL_1 rfl (op_move rfl) ?_
  refine JL_1 rfl (op_move rfl) ?_
  refine JL_1 rfl (by first | exact op_shrU32 (k := 16) ev32 (Ev.rfl' rfl) (by first | omega | exact UV_nonneg _) idxT | exact op_shr (Ev.rfl' rfl) (Ev.rfl' rfl) (by first | omega | exact UV_nonneg _) rfl) ?_
  refine JL_1 rfl (by first | exact op_bits ev32 ev32 (by simp) (xor_u32 _ _) | exact op_bits (Ev.rfl' rfl) (Ev.rfl' rfl) (by simp) rfl) ?_
  refine JL_1 rfl (op_assign rfl) ?_
  refine JL_nil ?_
  refine JQ_then (JC_ret ?_)
  refine JQ_ret1 Tryd.results20 rfl () (SubL.eq ?_) (List.nil_sublist _)
  rfl
-- bodegalaw23.awake: function 13
theorem awakeH_ok : FnP Tryd.prog 13 [] (Is (.bool true)) := by
  refine FnP.enter Tryd.func13 Tryd.ntmps13 rfl rfl ?_
  intro c hX
  refine JC_seq ?_
  refine JC_region ?_
  refine JL_1 rfl (op_assign rfl) ?_
  refine JL_nil ?_
  refine JQ_then (JC_seq ?_)
  refine JC_region ?_
  refine JL_1 rfl (op_call Tryd.call20 (Hash_ok 1#32) ⟨evS, trivial⟩) ?_
  refine JL_1 rfl (op_eql (Ev.rfl' rfl) (Ev.rfl' rfl)) ?_
  refine JL_1 rfl (op_assign rfl) ?_
  refine JL_nil ?_
  refine JQ_then (JC_ret ?_)
  refine JQ_ret1 Tryd.results13 rfl () (SubL.eq ?_) (List.nil_sublist _)
  rfl
def rootK (r : Rt) (k : Nat) : Rt := ⟨r.first, r.depth, ptK k 0 r.p0, ptK k 1 r.p1, ptK k 2 r.p2, ptK k 3 r.p3⟩
-- bodegalaw23.root: function 12
set_option maxHeartbeats 4000000 in
theorem root_ok2 (r : Rt) : FnP Tryd.prog 12 [IsRt r] (IsRt r) := by
  refine FnP.enter Tryd.func12 Tryd.ntmps12 rfl rfl ?_
  intro c hX
  refine JC_seq ?_
  refine JC_region ?_
  (refine JL_n rfl (op_box (Ev.rfl' rfl) cellsT) ?_; intro i1)
  (refine JL_n rfl (op_allocN rfl nrmT rfl) ?_; intro i2)
  refine JL_nil ?_
  refine JQ_then (JC_seq ?_)
  refine JC_dr rfl (by kernel_rfl) ?_
  refine JD_stretch 8 (by kernel_rfl) ?_
  refine JW_1 (by first | exact op_fieldPtr (k := 0) (Ev.rfl' rfl) rfl rfl rfl rfl | exact op_fieldRefN (k := 0) (Ev.rfl' rfl) rfl rfl rfl rfl nrmT) ?_
  refine JW_1 (by first | exact op_loadRefsN (n := 2) (Ev.rfl' rfl) rfl rfl rfl (by rfl) nrmT | exact op_loadPtrsN (n := 2) (Ev.rfl' rfl) memT (by rfl) (by rfl) (by rfl) (by rfl) nrmT) ?_
  refine JW_1 (op_call Tryd.call33 (ref_ok _) ⟨evS, trivial⟩) ?_
  refine JW_1 (by first | exact op_fieldPtr (k := 2) (Ev.rfl' rfl) rfl rfl rfl rfl | exact op_fieldRefN (k := 2) (Ev.rfl' rfl) rfl rfl rfl rfl nrmT) ?_
  refine JW_1 (by first | exact op_loadRef (Ev.rfl' rfl) rfl rfl rfl | exact op_loadPtr (Ev.rfl' rfl) memT (by rfl) (by rfl) (by rfl)) ?_
  refine JW_1 (op_buildN (qs := [(0, _), (1, _)]) rfl rfl rfl rfl ⟨⟨rfl, _, (Ev.rfl' rfl), cellsT⟩, ⟨⟨rfl, _, (Ev.rfl' rfl), cellsT⟩, trivial⟩⟩ (by rfl) nrmT) ?_
  refine JW_n (op_allocN rfl nrmT rfl) ?_
  refine JW_write rfl rfl rfl (by kernel_rfl) (op_storeWN evS cellsT rfl rfl rfl nrmT) ?_
  refine ⟨rfl, ?_⟩
  intro i3
  refine JD_end ?_
  refine JQ_then (JC_seq (JC_seq ?_))
  refine JC_region ?_
  refine JL_1 rfl (op_assign rfl) ?_
  refine JL_nil ?_
  refine JQ_then (JC_block ?_)
  refine JC_loopP (fun k : Nat => k ≤ 4) (fun k => [(1, Is (.pointer (some ⟨i1, 0, none⟩))), (2, Is (.pointer (some ⟨i2, 0, none⟩))), (3, Is (.pointer (some ⟨i3, 0, none⟩))), (4, Is (.int .i64 (k : Nat)))]) (fun k => [blk i3 39 (tRt.cells (rootK r k)), blk i2 39 (tRt.cells Rt.nil), blk i1 30 (tRt.cells r)]) (fun k => 4 - k) 0 (Nat.zero_le _) esubT lessT ?_
  rintro k hk
  refine JC_seq (JC_seq ?_)
  refine JC_region ?_
  refine JL_1 rfl (op_move rfl) ?_
  refine JL_1 rfl (op_lss (Ev.rfl' rfl) (Ev.rfl' rfl)) ?_
  refine JL_nil ?_
  refine JQ_then ?_
  refine JC_cond (Ev.rfl' rfl) (fun h3 => ?_) (fun h3 => ?_)
  · have hk4 : k = 0 ∨ k = 1 ∨ k = 2 ∨ k = 3 := by have := of_decide_eq_true h3; omega
    clear h3
    rcases hk4 with rfl | rfl | rfl | rfl
    all_goals
      refine JC_skip (JQ_then (JC_seq (JC_block ?_)))
      refine JC_region ?_
      refine JL_1 rfl (op_move rfl) ?_
      refine JL_1 rfl (op_move rfl) ?_
      refine JL_1 rfl (by first | exact op_fieldPtr (k := 3) (Ev.rfl' rfl) rfl rfl rfl rfl | exact op_fieldRefN (k := 3) (Ev.rfl' rfl) rfl rfl rfl rfl nrmT) ?_
      refine JL_1 rfl (op_indexArr (k := _) (sz := 2) (Ev.rfl' rfl) (Ev.rfl' rfl) rfl rfl idxT (by first | decide | omega)) ?_
      refine JL_1 rfl (by first | exact op_loadRefsN (n := 2) (Ev.rfl' rfl) rfl rfl rfl (by rfl) nrmT | exact op_loadPtrsN (n := 2) (Ev.rfl' rfl) memT (by rfl) (by rfl) (by rfl) (by rfl) nrmT) ?_
      refine JL_1 rfl (op_call Tryd.call33 (ref_ok _) ⟨evS, trivial⟩) ?_
      refine JL_1 rfl (by first | exact op_fieldPtr (k := 3) (Ev.rfl' rfl) rfl rfl rfl rfl | exact op_fieldRefN (k := 3) (Ev.rfl' rfl) rfl rfl rfl rfl nrmT) ?_
      refine JL_1 rfl (op_indexArr (k := _) (sz := 2) (Ev.rfl' rfl) (Ev.rfl' rfl) rfl rfl idxT (by first | decide | omega)) ?_
      refine JL_s0 (op_storeN (Ev.rfl' rfl) (Ev.rfl' rfl) cellsT replT nrmT (by rfl) (by rfl) (by rfl)) ?_
      refine JL_nil ?_
      refine JQ_block (JQ_then ?_)
      refine JC_region ?_
      refine JL_1 rfl (op_move rfl) ?_
      refine JL_1 rfl (op_add (Ev.rfl' rfl) (Ev.rfl' rfl) wrapT) ?_
      refine JL_1 rfl (op_assign rfl) ?_
      refine JL_nil ?_
      first | exact JQ_roundP 1 (by omega) (by omega) esubT lessT | exact JQ_roundP 2 (by omega) (by omega) esubT lessT | exact JQ_roundP 3 (by omega) (by omega) esubT lessT | exact JQ_roundP 4 (by omega) (by omega) esubT lessT
  have hk4 : k = 4 := by have := of_decide_eq_false h3; omega
  subst hk4
  refine JC_exit (JQ_then_exit (JQ_then_exit (JQ_hit (JQ_then (JC_seq ?_)))))
  refine JC_region ?_
  refine JL_1 rfl (by first | exact op_loadRefsN (n := 11) (Ev.rfl' rfl) rfl rfl rfl (by rfl) nrmT | exact op_loadPtrsN (n := 11) (Ev.rfl' rfl) memT (by rfl) (by rfl) (by rfl) (by rfl) nrmT) ?_
  refine JL_s0 (op_storeN (Ev.rfl' rfl) (Ev.rfl' rfl) cellsT replT nrmT (by rfl) (by rfl) (by rfl)) ?_
  refine JL_nil ?_
  refine JQ_then (JC_ret ?_)
  exact JQ_ret (Bs := [IsRt r]) Tryd.results12 ⟨⟨_, _, _, _, rfl, memT, rfl, .inr ⟨rfl, _, rfl, rfl, subT⟩⟩, trivial⟩ () SubL.rfl' (List.nil_sublist _)
def dataV (p : Pg) : List Value := [.int .u64 (UV p.d0), .int .u64 (UV p.d1), .int .u64 (UV p.d2), .int .u64 (UV p.d3), .int .u64 (UV p.d4), .int .u64 (UV p.d5), .int .u64 (UV p.d6)]
theorem eqD_run (p : Pg) (w : World) : (Op.equal 23 (.agg (dataV p).toArray) (.agg (dataV p).toArray)).run Tryd.prog w = .ok true w :=
  (eq7 9998 w p.d0 p.d1 p.d2 p.d3 p.d4 p.d5 p.d6 p.d0 p.d1 p.d2 p.d3 p.d4 p.d5 p.d6).trans (by simp)
theorem eqD_guard (o : BinOp) (x y : Operand) (p q : Pg) (w : World) : (eqGuard o 23 x y (.agg (dataV p).toArray) (.agg (dataV q).toArray)).run Tryd.prog w = .ok () w := by
  have h : Tryd.prog.eqGuardType Tryd.prog.depth 23 = false := by kernel_rfl
  cases o <;> simp [eqGuard, program, Sem.run, h]
theorem eqD_eql (p : Pg) (w : World) : (binOp .eql 23 (.agg (dataV p).toArray) (.agg (dataV p).toArray)).run Tryd.prog w = .ok (.bool true) w := by
  simp only [binOp, Sem.run_bind, eqD_run, Result.andThen_ok, Sem.run_pure]
-- bodegalaw23.same: function 14
theorem same_refl (p : Pg) : FnP Tryd.prog 14 [IsPg p, IsPg p] (Is (.bool true)) := by
  refine FnP.enter Tryd.func14 Tryd.ntmps14 rfl rfl ?_
  intro c hX
  refine JC_seq ?_
  refine JC_region ?_
  (refine JL_n rfl (op_box (Ev.rfl' rfl) cellsT) ?_; intro i2)
  (refine JL_n rfl (op_box (Ev.rfl' rfl) cellsT) ?_; intro i3)
  refine JL_1 rfl (op_assign rfl) ?_
  refine JL_nil ?_
  refine JQ_then (JC_seq ?_)
  refine JC_region ?_
  refine JL_1 rfl (by first | exact op_fieldPtr (k := 0) (Ev.rfl' rfl) rfl rfl rfl rfl | exact op_fieldRefN (k := 0) (Ev.rfl' rfl) rfl rfl rfl rfl nrmT) ?_
  refine JL_1 rfl (by first | exact op_loadRef (Ev.rfl' rfl) rfl rfl rfl | exact op_loadPtr (Ev.rfl' rfl) memT (by rfl) (by rfl) (by rfl)) ?_
  refine JL_1 rfl (by first | exact op_fieldPtr (k := 0) (Ev.rfl' rfl) rfl rfl rfl rfl | exact op_fieldRefN (k := 0) (Ev.rfl' rfl) rfl rfl rfl rfl nrmT) ?_
  refine JL_1 rfl (by first | exact op_loadRef (Ev.rfl' rfl) rfl rfl rfl | exact op_loadPtr (Ev.rfl' rfl) memT (by rfl) (by rfl) (by rfl)) ?_
  refine JL_1 rfl (op_eql (Ev.rfl' rfl) (Ev.rfl' rfl)) ?_
  refine JL_1 rfl (op_move rfl) ?_
  (first | refine JL_i0 rfl rfl rfl (fun hg => (by have hg0 := hg; (try simp at hg); first | exact op_fieldPtr (k := 1) evG rfl rfl rfl rfl | exact op_fieldRefN (k := 1) evG rfl rfl rfl rfl nrmT)) ?_ | refine JL_i rfl rfl rfl (fun hp hg => (by have hpg := Bool.and_eq_true_iff.2 ⟨hp, hg⟩; have hg0 := hg; (try simp at hg); first | exact op_fieldPtr (k := 1) evG rfl rfl rfl rfl | exact op_fieldRefN (k := 1) evG rfl rfl rfl rfl nrmT)) ?_)
  (first | refine JL_i0 rfl rfl rfl (fun hg => (by have hg0 := hg; (try simp at hg); first | exact op_loadRef evG rfl rfl rfl | exact op_loadPtr evG memT (by rfl) (by rfl) (by rfl))) ?_ | refine JL_i rfl rfl rfl (fun hp hg => (by have hpg := Bool.and_eq_true_iff.2 ⟨hp, hg⟩; have hg0 := hg; (try simp at hg); first | exact op_loadRef evG rfl rfl rfl | exact op_loadPtr evG memT (by rfl) (by rfl) (by rfl))) ?_)
  (first | refine JL_i0 rfl rfl rfl (fun hg => (by have hg0 := hg; (try simp at hg); first | exact op_fieldPtr (k := 1) evG rfl rfl rfl rfl | exact op_fieldRefN (k := 1) evG rfl rfl rfl rfl nrmT)) ?_ | refine JL_i rfl rfl rfl (fun hp hg => (by have hpg := Bool.and_eq_true_iff.2 ⟨hp, hg⟩; have hg0 := hg; (try simp at hg); first | exact op_fieldPtr (k := 1) evG rfl rfl rfl rfl | exact op_fieldRefN (k := 1) evG rfl rfl rfl rfl nrmT)) ?_)
  (first | refine JL_i0 rfl rfl rfl (fun hg => (by have hg0 := hg; (try simp at hg); first | exact op_loadRef evG rfl rfl rfl | exact op_loadPtr evG memT (by rfl) (by rfl) (by rfl))) ?_ | refine JL_i rfl rfl rfl (fun hp hg => (by have hpg := Bool.and_eq_true_iff.2 ⟨hp, hg⟩; have hg0 := hg; (try simp at hg); first | exact op_loadRef evG rfl rfl rfl | exact op_loadPtr evG memT (by rfl) (by rfl) (by rfl))) ?_)
  (first | refine JL_i0 rfl rfl rfl (fun hg => (by have hg0 := hg; (try simp at hg); exact op_eql evG evG)) ?_ | refine JL_i rfl rfl rfl (fun hp hg => (by have hpg := Bool.and_eq_true_iff.2 ⟨hp, hg⟩; have hg0 := hg; (try simp at hg); exact op_eql evG evG)) ?_)
  refine JL_1 rfl (op_and (Ev.rfl' rfl) rfl (fun h => by first | exact SubL.rfl' | exact SubL.iteT (by first | (rw [h]; rfl) | (simp_all; done)) SubL.rfl')) ?_
  refine JL_1 rfl (op_move rfl) ?_
  (first | refine JL_i0 rfl rfl rfl (fun hg => (by have hg0 := hg; (try simp at hg); first | exact op_fieldPtr (k := 2) evG rfl rfl rfl rfl | exact op_fieldRefN (k := 2) evG rfl rfl rfl rfl nrmT)) ?_ | refine JL_i rfl rfl rfl (fun hp hg => (by have hpg := Bool.and_eq_true_iff.2 ⟨hp, hg⟩; have hg0 := hg; (try simp at hg); first | exact op_fieldPtr (k := 2) evG rfl rfl rfl rfl | exact op_fieldRefN (k := 2) evG rfl rfl rfl rfl nrmT)) ?_)
  (first | refine JL_i0 rfl rfl rfl (fun hg => (by have hg0 := hg; (try simp at hg); first | exact op_loadRefsN (n := 7) evG rfl rfl rfl (by rfl) nrmT | exact op_loadPtrsN (n := 7) evG memT (by rfl) (by rfl) (by rfl) (by rfl) nrmT)) ?_ | refine JL_i rfl rfl rfl (fun hp hg => (by have hpg := Bool.and_eq_true_iff.2 ⟨hp, hg⟩; have hg0 := hg; (try simp at hg); first | exact op_loadRefsN (n := 7) evG rfl rfl rfl (by rfl) nrmT | exact op_loadPtrsN (n := 7) evG memT (by rfl) (by rfl) (by rfl) (by rfl) nrmT)) ?_)
  (first | refine JL_i0 rfl rfl rfl (fun hg => (by have hg0 := hg; (try simp at hg); first | exact op_fieldPtr (k := 2) evG rfl rfl rfl rfl | exact op_fieldRefN (k := 2) evG rfl rfl rfl rfl nrmT)) ?_ | refine JL_i rfl rfl rfl (fun hp hg => (by have hpg := Bool.and_eq_true_iff.2 ⟨hp, hg⟩; have hg0 := hg; (try simp at hg); first | exact op_fieldPtr (k := 2) evG rfl rfl rfl rfl | exact op_fieldRefN (k := 2) evG rfl rfl rfl rfl nrmT)) ?_)
  (first | refine JL_i0 rfl rfl rfl (fun hg => (by have hg0 := hg; (try simp at hg); first | exact op_loadRefsN (n := 7) evG rfl rfl rfl (by rfl) nrmT | exact op_loadPtrsN (n := 7) evG memT (by rfl) (by rfl) (by rfl) (by rfl) nrmT)) ?_ | refine JL_i rfl rfl rfl (fun hp hg => (by have hpg := Bool.and_eq_true_iff.2 ⟨hp, hg⟩; have hg0 := hg; (try simp at hg); first | exact op_loadRefsN (n := 7) evG rfl rfl rfl (by rfl) nrmT | exact op_loadPtrsN (n := 7) evG memT (by rfl) (by rfl) (by rfl) (by rfl) nrmT)) ?_)
  (first | refine JL_i0 rfl rfl rfl (fun hg => (by have hg0 := hg; (try simp at hg); exact op_cmpA (vs := dataV p) (ws := dataV p) evG evG (eqD_guard _ _ _ p p) (eqD_eql p))) ?_ | refine JL_i rfl rfl rfl (fun hp hg => (by have hpg := Bool.and_eq_true_iff.2 ⟨hp, hg⟩; have hg0 := hg; (try simp at hg); exact op_cmpA (vs := dataV p) (ws := dataV p) evG evG (eqD_guard _ _ _ p p) (eqD_eql p))) ?_)
  refine JL_1 rfl (op_and (Ev.rfl' rfl) rfl (fun h => by first | exact SubL.rfl' | exact SubL.iteT (by first | (rw [h]; rfl) | (simp_all; done)) SubL.rfl')) ?_
  refine JL_1 rfl (op_assign rfl) ?_
  refine JL_nil ?_
  refine JQ_then (JC_ret ?_)
  refine JQ_ret1 Tryd.results14 rfl () (SubL.eq ?_) (List.nil_sublist _)
  simp
end Go.Proofs.YtmcaomdjlepapaaDoor

/- The walk of HashRoots. Own work. -/
namespace Go.Proofs.YtmcaomdjlepapaaDoor
open Go.RowKit
set_option linter.unusedVariables false
set_option linter.unusedSimpArgs false
set_option maxRecDepth 100000
def Pg.setd (p : Pg) (j : Nat) (x : BitVec 64) : Pg := match j with
  | 0 => { p with d0 := x }
  | 1 => { p with d1 := x }
  | 2 => { p with d2 := x }
  | 3 => { p with d3 := x }
  | 4 => { p with d4 := x }
  | 5 => { p with d5 := x }
  | _ => { p with d6 := x }
theorem setd_cells (p : Pg) {j : Nat} (x : BitVec 64) (hj : j < 7) : tPg.cells (p.setd j x) = ovr (tPg.cells p) (2 + j) [Is (.int .u64 (UV x))] := by
  match j, hj with
  | 0, _ => rfl
  | 1, _ => rfl
  | 2, _ => rfl
  | 3, _ => rfl
  | 4, _ => rfl
  | 5, _ => rfl
  | 6, _ => rfl
theorem data_cell (p : Pg) {j : Nat} (hj : j < 7) : ∃ x : BitVec 64, (tPg.cells p)[2 + j]? = some (Is (.int .u64 (UV x))) := by
  match j, hj with
  | 0, _ => exact ⟨_, rfl⟩
  | 1, _ => exact ⟨_, rfl⟩
  | 2, _ => exact ⟨_, rfl⟩
  | 3, _ => exact ⟨_, rfl⟩
  | 4, _ => exact ⟨_, rfl⟩
  | 5, _ => exact ⟨_, rfl⟩
  | 6, _ => exact ⟨_, rfl⟩
theorem tdiv_in {n : Int} (h : I64ok n) (k : Int) (hk : 1 ≤ k) : -9223372036854775808 ≤ n.tdiv k ∧ n.tdiv k ≤ 9223372036854775807 := by
  obtain ⟨h1, h2⟩ := h
  rcases Int.le_total 0 n with h0 | h0
  · rw [Int.tdiv_eq_ediv_of_nonneg h0]
    have a1 := Int.ediv_nonneg h0 (show 0 ≤ k by omega)
    have a2 := Int.ediv_le_self k h0
    omega
  · have e : n.tdiv k = -((-n).tdiv k) := by rw [Int.neg_tdiv]; simp
    rw [e, Int.tdiv_eq_ediv_of_nonneg (by omega)]
    have a1 := Int.ediv_nonneg (show 0 ≤ -n by omega) (show 0 ≤ k by omega)
    have a2 := Int.ediv_le_self k (show 0 ≤ -n by omega)
    omega
theorem write_ok {p : Pg} {r : Rt} (h : (writeR p r).2 = 0) : p.l = 96 ∧ rootB r = true ∧ writeR p r = (writeV p r, 0) := by
  unfold writeR at h ⊢
  cases hb : (p.l != 96 || !rootB r) with
  | true => rw [hb] at h; simp at h
  | false =>
    simp only [Bool.or_eq_false_iff] at hb
    refine ⟨by simpa using hb.1, by simpa using hb.2, ?_⟩
    simp
-- bodegalaw23.HashRoots: function 3
set_option maxHeartbeats 8000000 in
theorem HashRoots_ok (p : Pg) (r : Rt) (n : Int) (hn : I64ok n) : FnK Tryd.prog 3 gNone [IsPg p, IsRt r, Is (.int .i64 n)] (Is (.bool true)) := by
  have ht1 := tdiv_in hn 8 (by omega)
  have ht2 := tdiv_in hn 24 (by omega)
  refine Fn.enterN Tryd.func3 Tryd.ntmps3 rfl rfl ?_
  intro c hX
  refine JC_seq ?_
  refine JC_region ?_
  (refine JL_n rfl (op_box (Ev.rfl' rfl) cellsT) ?_; intro i3)
  (refine JL_n rfl (op_box (Ev.rfl' rfl) cellsT) ?_; intro i4)
  refine JL_1 rfl (op_assign rfl) ?_
  refine JL_nil ?_
  refine JQ_then (JC_seq (JC_seq ?_))
  refine JC_region ?_
  refine JL_1 rfl (op_move rfl) ?_
  refine JL_1 rfl (by first | ((refine op_call Tryd.call6 (PickH_ok _ _ ?_ ?_) ⟨evS, ⟨evS, trivial⟩⟩); all_goals (first | omega))) ?_
  refine JL_1 rfl (op_gtr (Ev.rfl' rfl) (Ev.rfl' rfl)) ?_
  refine JL_nil ?_
  refine JQ_then ?_
  refine JC_cutT (fun z : Pg × Rt => True) (fun z => [(2, Is (.int .i64 n)), (3, Is (.pointer (some ⟨i3, 0, none⟩))), (4, Is (.pointer (some ⟨i4, 0, none⟩)))]) (fun z => [blk i3 25 (tPg.cells z.1), blk i4 30 (tRt.cells z.2), gNone]) ?_ ?_
  rotate_left
  focus
    refine JC_cond (Ev.rfl' rfl) (fun h1 => ?_) (fun h1 => ?_)
    · refine JC_seq ?_
      refine JC_region ?_
      refine JL_1 rfl (by first | exact op_fieldPtr (k := 0) (Ev.rfl' rfl) rfl rfl rfl rfl | exact op_fieldRefN (k := 0) (Ev.rfl' rfl) rfl rfl rfl rfl nrmT) ?_
      refine JL_s0 (op_storeN (Ev.rfl' rfl) (Ev.rfl' rfl) cellsT replT nrmT (by rfl) (by rfl) (by rfl)) ?_
      refine JL_nil ?_
      refine JQ_then (JC_seq ?_)
      refine JC_region ?_
      refine JL_1 rfl (by first | exact op_fieldPtr (k := 2) (Ev.rfl' rfl) rfl rfl rfl rfl | exact op_fieldRefN (k := 2) (Ev.rfl' rfl) rfl rfl rfl rfl nrmT) ?_
      refine JL_1 rfl (by first | exact op_loadRef (Ev.rfl' rfl) rfl rfl rfl | exact op_loadPtr (Ev.rfl' rfl) memT (by rfl) (by rfl) (by rfl)) ?_
      refine JL_1 rfl (by first | ((refine op_call Tryd.call6 (PickH_ok _ _ ?_ ?_) ⟨evS, ⟨evS, trivial⟩⟩); all_goals (first | omega))) ?_
      refine JL_1 rfl (op_sub (Ev.rfl' rfl) (Ev.rfl' rfl) wrapT) ?_
      refine JL_1 rfl (by first | exact op_fieldPtr (k := 2) (Ev.rfl' rfl) rfl rfl rfl rfl | exact op_fieldRefN (k := 2) (Ev.rfl' rfl) rfl rfl rfl rfl nrmT) ?_
      refine JL_s0 (op_storeN (Ev.rfl' rfl) (Ev.rfl' rfl) cellsT replT nrmT (by rfl) (by rfl) (by rfl)) ?_
      refine JL_nil ?_
      refine JQ_then (JC_seq ?_)
      refine JC_region ?_
      refine JL_1 rfl (by first | exact op_fieldPtr (k := 0) (Ev.rfl' rfl) rfl rfl rfl rfl | exact op_fieldRefN (k := 0) (Ev.rfl' rfl) rfl rfl rfl rfl nrmT) ?_
      refine JL_1 rfl (by first | exact op_loadRefsN (n := 2) (Ev.rfl' rfl) rfl rfl rfl (by rfl) nrmT | exact op_loadPtrsN (n := 2) (Ev.rfl' rfl) memT (by rfl) (by rfl) (by rfl) (by rfl) nrmT) ?_
      refine JL_1 rfl (op_call Tryd.call7 (aim_ok _) ⟨evS, trivial⟩) ?_
      refine JL_ex 29 rfl (fun qf => ?_)
      refine JL_1 rfl (by first | exact op_fieldPtr (k := 0) (Ev.rfl' rfl) rfl rfl rfl rfl | exact op_fieldRefN (k := 0) (Ev.rfl' rfl) rfl rfl rfl rfl nrmT) ?_
      refine JL_s0 (op_storeN (Ev.rfl' rfl) (Ev.rfl' rfl) cellsT replT nrmT (by rfl) (by rfl) (by rfl)) ?_
      refine JL_nil ?_
      refine JQ_then (JC_seq (JC_seq ?_))
      refine JC_region ?_
      refine JL_1 rfl (op_assign rfl) ?_
      refine JL_nil ?_
      refine JQ_then (JC_block ?_)
      refine JC_loopP (fun z : Nat × Rt => z.1 ≤ 4) (fun z => [(2, Is (.int .i64 n)), (3, Is (.pointer (some ⟨i3, 0, none⟩))), (4, Is (.pointer (some ⟨i4, 0, none⟩))), (7, Is (.int .i64 (z.1 : Nat)))]) (fun z => [blk i3 25 (tPg.cells ⟨96, p.h, p.d0, p.d1, p.d2, p.d3, p.d4, p.d5, p.d6⟩), blk i4 30 (tRt.cells z.2), gNone]) (fun z => 4 - z.1) (0, ⟨qf, r.depth % 9 - 1, r.p0, r.p1, r.p2, r.p3⟩) (Nat.zero_le _) esubT lessT ?_
      rintro ⟨k, z⟩ hk
      dsimp only at hk ⊢
      refine JC_seq (JC_seq ?_)
      refine JC_region ?_
      refine JL_1 rfl (op_move rfl) ?_
      refine JL_1 rfl (op_lss (Ev.rfl' rfl) (Ev.rfl' rfl)) ?_
      refine JL_nil ?_
      refine JQ_then ?_
      refine JC_cond (Ev.rfl' rfl) (fun h6 => ?_) (fun h6 => ?_)
      · have hk4 : k = 0 ∨ k = 1 ∨ k = 2 ∨ k = 3 := by have := of_decide_eq_true h6; omega
        clear h6
        rcases hk4 with rfl | rfl | rfl | rfl
        all_goals
          refine JC_skip (JQ_then (JC_seq (JC_block ?_)))
          refine JC_region ?_
          refine JL_1 rfl (op_move rfl) ?_
          refine JL_1 rfl (op_move rfl) ?_
          refine JL_1 rfl (by first | exact op_fieldPtr (k := 3) (Ev.rfl' rfl) rfl rfl rfl rfl | exact op_fieldRefN (k := 3) (Ev.rfl' rfl) rfl rfl rfl rfl nrmT) ?_
          refine JL_1 rfl (op_indexArr (k := _) (sz := 2) (Ev.rfl' rfl) (Ev.rfl' rfl) rfl rfl idxT (by first | decide | omega)) ?_
          refine JL_1 rfl (by first | exact op_loadRefsN (n := 2) (Ev.rfl' rfl) rfl rfl rfl (by rfl) nrmT | exact op_loadPtrsN (n := 2) (Ev.rfl' rfl) memT (by rfl) (by rfl) (by rfl) (by rfl) nrmT) ?_
          refine JL_1 rfl (op_call Tryd.call7 (aim_ok _) ⟨evS, trivial⟩) ?_
          refine JL_ex 40 rfl (fun qk => ?_)
          refine JL_1 rfl (by first | exact op_fieldPtr (k := 3) (Ev.rfl' rfl) rfl rfl rfl rfl | exact op_fieldRefN (k := 3) (Ev.rfl' rfl) rfl rfl rfl rfl nrmT) ?_
          refine JL_1 rfl (op_indexArr (k := _) (sz := 2) (Ev.rfl' rfl) (Ev.rfl' rfl) rfl rfl idxT (by first | decide | omega)) ?_
          refine JL_s0 (op_storeN (Ev.rfl' rfl) (Ev.rfl' rfl) cellsT replT nrmT (by rfl) (by rfl) (by rfl)) ?_
          refine JL_nil ?_
          refine JQ_block (JQ_then ?_)
          refine JC_region ?_
          refine JL_1 rfl (op_move rfl) ?_
          refine JL_1 rfl (op_add (Ev.rfl' rfl) (Ev.rfl' rfl) wrapT) ?_
          refine JL_1 rfl (op_assign rfl) ?_
          refine JL_nil ?_
          first | exact JQ_roundP (1, ⟨z.first, z.depth, qk, z.p1, z.p2, z.p3⟩) (by dsimp only; omega) (by dsimp only; omega) esubT lessT | exact JQ_roundP (2, ⟨z.first, z.depth, z.p0, qk, z.p2, z.p3⟩) (by dsimp only; omega) (by dsimp only; omega) esubT lessT | exact JQ_roundP (3, ⟨z.first, z.depth, z.p0, z.p1, qk, z.p3⟩) (by dsimp only; omega) (by dsimp only; omega) esubT lessT | exact JQ_roundP (4, ⟨z.first, z.depth, z.p0, z.p1, z.p2, qk⟩) (by dsimp only; omega) (by dsimp only; omega) esubT lessT
      refine JC_exit (JQ_then_exit (JQ_then_exit (JQ_hit (JQ_then (JC_seq ?_)))))
      refine JC_region ?_
      refine JL_1 rfl (op_move rfl) ?_
      refine JL_1 rfl (op_rem (Ev.rfl' rfl) (Ev.rfl' rfl) (by omega) rfl) ?_
      refine JL_1 rfl (op_eql (Ev.rfl' rfl) (Ev.rfl' rfl)) ?_
      refine JL_nil ?_
      refine JQ_then ?_
      refine JC_cond (Ev.rfl' rfl) (fun h9 => ?_) (fun h9 => ?_)
      · refine JC_region ?_
        refine JL_1 rfl (op_buildN (qs := []) rfl rfl rfl rfl trivial (by rfl) nrmT) ?_
        refine JL_s0 (op_storeN (Ev.rfl' rfl) (Ev.rfl' rfl) cellsT replT nrmT (by rfl) (by rfl) (by rfl)) ?_
        refine JL_nil ?_
        exact JQ_meetP (⟨96, p.h, p.d0, p.d1, p.d2, p.d3, p.d4, p.d5, p.d6⟩, Rt.nil) trivial esubT lessT
      refine JC_skip ?_
      exact JQ_meetP (⟨96, p.h, p.d0, p.d1, p.d2, p.d3, p.d4, p.d5, p.d6⟩, z) trivial esubT lessT
    refine JC_skip ?_
    exact JQ_meetP (p, r) trivial esubT lessT
  rintro ⟨q, s⟩ _
  dsimp only
  refine JC_seq ?_
  refine JC_region ?_
  refine JL_1 rfl (by first | exact op_loadRefsN (n := 9) (Ev.rfl' rfl) rfl rfl rfl (by rfl) nrmT | exact op_loadPtrsN (n := 9) (Ev.rfl' rfl) memT (by rfl) (by rfl) (by rfl) (by rfl) nrmT) ?_
  refine JL_1 rfl (by first | ((refine op_callK Tryd.call8 (ReadRoot_ok _) ⟨evS, trivial⟩ memT))) ?_
  refine JL_1 rfl (op_move rfl) ?_
  refine JL_1 rfl (op_extract (Ev.rfl' rfl) rfl) ?_
  refine JL_1 rfl (op_extract (Ev.rfl' rfl) rfl) ?_
  (refine JL_n rfl (op_allocN rfl nrmT rfl) ?_; intro i8)
  refine JL_s0 (op_storeN (Ev.rfl' rfl) (Ev.rfl' rfl) cellsT replT nrmT (by rfl) (by rfl) (by rfl)) ?_
  refine JL_1 rfl (op_assign rfl) ?_
  refine JL_nil ?_
  refine JQ_then (JC_seq ?_)
  refine JC_region ?_
  refine JL_1 rfl (by first | exact op_loadRefsN (n := 9) (Ev.rfl' rfl) rfl rfl rfl (by rfl) nrmT | exact op_loadPtrsN (n := 9) (Ev.rfl' rfl) memT (by rfl) (by rfl) (by rfl) (by rfl) nrmT) ?_
  refine JL_1 rfl (op_call Tryd.call9 (ReadRootR_ok _) ⟨evS, trivial⟩) ?_
  refine JL_1 rfl (op_move rfl) ?_
  refine JL_1 rfl (op_extract (Ev.rfl' rfl) rfl) ?_
  refine JL_1 rfl (op_extract (Ev.rfl' rfl) rfl) ?_
  (refine JL_n rfl (op_allocN rfl nrmT rfl) ?_; intro i10)
  refine JL_s0 (op_storeN (Ev.rfl' rfl) (Ev.rfl' rfl) cellsT replT nrmT (by rfl) (by rfl) (by rfl)) ?_
  refine JL_1 rfl (op_assign rfl) ?_
  refine JL_nil ?_
  refine JQ_then (JC_seq ?_)
  refine JC_region ?_
  refine JL_1 rfl (by first | exact op_loadRefsN (n := 9) (Ev.rfl' rfl) rfl rfl rfl (by rfl) nrmT | exact op_loadPtrsN (n := 9) (Ev.rfl' rfl) memT (by rfl) (by rfl) (by rfl) (by rfl) nrmT) ?_
  refine JL_1 rfl (by first | exact op_loadRefsN (n := 11) (Ev.rfl' rfl) rfl rfl rfl (by rfl) nrmT | exact op_loadPtrsN (n := 11) (Ev.rfl' rfl) memT (by rfl) (by rfl) (by rfl) (by rfl) nrmT) ?_
  refine JL_1 rfl (by first | ((refine op_callK Tryd.call10 (WriteRoot_ok _ _) ⟨evS, ⟨evS, trivial⟩⟩ memT))) ?_
  refine JL_1 rfl (op_move rfl) ?_
  refine JL_1 rfl (op_extract (Ev.rfl' rfl) rfl) ?_
  refine JL_1 rfl (op_extract (Ev.rfl' rfl) rfl) ?_
  (refine JL_n rfl (op_allocN rfl nrmT rfl) ?_; intro i12)
  refine JL_s0 (op_storeN (Ev.rfl' rfl) (Ev.rfl' rfl) cellsT replT nrmT (by rfl) (by rfl) (by rfl)) ?_
  refine JL_1 rfl (op_assign rfl) ?_
  refine JL_nil ?_
  refine JQ_then (JC_seq ?_)
  refine JC_dr rfl (by kernel_rfl) ?_
  refine JD_stretch 10 (by kernel_rfl) ?_
  refine JW_1 (by first | exact op_loadRefsN (n := 9) (Ev.rfl' rfl) rfl rfl rfl (by rfl) nrmT | exact op_loadPtrsN (n := 9) (Ev.rfl' rfl) memT (by rfl) (by rfl) (by rfl) (by rfl) nrmT) ?_
  refine JW_1 (by first | exact op_loadRefsN (n := 11) (Ev.rfl' rfl) rfl rfl rfl (by rfl) nrmT | exact op_loadPtrsN (n := 11) (Ev.rfl' rfl) memT (by rfl) (by rfl) (by rfl) (by rfl) nrmT) ?_
  refine JW_1 (op_call Tryd.call12 (root_ok2 _) ⟨evS, trivial⟩) ?_
  refine JW_1 (op_call Tryd.call11 (WriteRootR_ok _ _) ⟨evS, ⟨evS, trivial⟩⟩) ?_
  refine JW_1 (op_move rfl) ?_
  refine JW_1 (op_extract (Ev.rfl' rfl) rfl) ?_
  refine JW_1 (op_extract (Ev.rfl' rfl) rfl) ?_
  refine JW_n (op_allocN rfl nrmT rfl) ?_
  refine JW_write rfl rfl rfl (by kernel_rfl) (op_storeWN evS cellsT rfl rfl rfl nrmT) ?_
  refine JW_1 (op_assign rfl) ?_
  refine ⟨rfl, ?_⟩
  intro i14
  refine JD_end ?_
  refine JQ_then (JC_seq (JC_seq ?_))
  refine JC_dr rfl (by kernel_rfl) ?_
  refine JD_stretch 24 (by kernel_rfl) ?_
  refine JW_1 (op_call Tryd.call13 (awakeH_ok) trivial) ?_
  refine JW_1 (op_not (Ev.rfl' rfl)) ?_
  refine JW_1 (op_move rfl) ?_
  (first | refine JW_i0 rfl rfl (fun hg => (by have hg0 := hg; (try simp at hg); first | exact op_loadRefsN (n := 11) evG rfl rfl rfl (by rfl) nrmT | exact op_loadPtrsN (n := 11) evG memT (by rfl) (by rfl) (by rfl) (by rfl) nrmT)) ?_ | refine JW_i rfl rfl (fun hp hg => (by have hpg := Bool.and_eq_true_iff.2 ⟨hp, hg⟩; have hg0 := hg; (try simp at hg); first | exact op_loadRefsN (n := 11) evG rfl rfl rfl (by rfl) nrmT | exact op_loadPtrsN (n := 11) evG memT (by rfl) (by rfl) (by rfl) (by rfl) nrmT)) ?_)
  (first | refine JW_i0 rfl rfl (fun hg => (by have hg0 := hg; (try simp at hg); exact op_call Tryd.call12 (root_ok2 _) ⟨evS, trivial⟩)) ?_ | refine JW_i rfl rfl (fun hp hg => (by have hpg := Bool.and_eq_true_iff.2 ⟨hp, hg⟩; have hg0 := hg; (try simp at hg); exact op_call Tryd.call12 (root_ok2 _) ⟨evS, trivial⟩)) ?_)
  (first | refine JW_i0 rfl rfl (fun hg => (by have hg0 := hg; (try simp at hg); first | exact op_loadRefsN (n := 11) evG rfl rfl rfl (by rfl) nrmT | exact op_loadPtrsN (n := 11) evG memT (by rfl) (by rfl) (by rfl) (by rfl) nrmT)) ?_ | refine JW_i rfl rfl (fun hp hg => (by have hpg := Bool.and_eq_true_iff.2 ⟨hp, hg⟩; have hg0 := hg; (try simp at hg); first | exact op_loadRefsN (n := 11) evG rfl rfl rfl (by rfl) nrmT | exact op_loadPtrsN (n := 11) evG memT (by rfl) (by rfl) (by rfl) (by rfl) nrmT)) ?_)
  (first | refine JW_i0 rfl rfl (fun hg => (by have hg0 := hg; (try simp at hg); exact op_cmpA (vs := Rt.cells (readR q).1) (ws := Rt.cells (readR q).1) evG evG (eqRtR_guard _ _ _ (readR q).1 (readR q).1) (eqRtR_neq (readR q).1 (readR q).1))) ?_ | refine JW_i rfl rfl (fun hp hg => (by have hpg := Bool.and_eq_true_iff.2 ⟨hp, hg⟩; have hg0 := hg; (try simp at hg); exact op_cmpA (vs := Rt.cells (readR q).1) (ws := Rt.cells (readR q).1) evG evG (eqRtR_guard _ _ _ (readR q).1 (readR q).1) (eqRtR_neq (readR q).1 (readR q).1))) ?_)
  refine JW_1 (op_or (Ev.rfl' rfl) rfl (fun h => by first | exact SubL.rfl' | exact SubL.iteT (by first | (rw [h]; rfl) | (simp_all; done)) SubL.rfl')) ?_
  refine JW_1 (op_move rfl) ?_
  (first | refine JW_i0 rfl rfl (fun hg => (by have hg0 := hg; (try simp at hg); first | exact op_moveE (Ev.sub rfl (SubL.iteT (by first | assumption | (simp; done) | (simp; omega) | (simp_all; done)) SubL.rfl')) | exact op_moveE (Ev.rfl' rfl))) ?_ | refine JW_i rfl rfl (fun hp hg => (by have hpg := Bool.and_eq_true_iff.2 ⟨hp, hg⟩; have hg0 := hg; (try simp at hg); first | exact op_moveE (Ev.sub rfl (SubL.iteT (by first | assumption | (simp; done) | (simp; omega) | (simp_all; done)) SubL.rfl')) | exact op_moveE (Ev.rfl' rfl))) ?_)
  (first | refine JW_i0 rfl rfl (fun hg => (by have hg0 := hg; (try simp at hg); first | exact op_moveE (Ev.sub rfl (SubL.iteT (by first | assumption | (simp; done) | (simp; omega) | (simp_all; done)) SubL.rfl')) | exact op_moveE (Ev.rfl' rfl))) ?_ | refine JW_i rfl rfl (fun hp hg => (by have hpg := Bool.and_eq_true_iff.2 ⟨hp, hg⟩; have hg0 := hg; (try simp at hg); first | exact op_moveE (Ev.sub rfl (SubL.iteT (by first | assumption | (simp; done) | (simp; omega) | (simp_all; done)) SubL.rfl')) | exact op_moveE (Ev.rfl' rfl))) ?_)
  (first | refine JW_i0 rfl rfl (fun hg => (by have hg0 := hg; (try simp at hg); exact op_neq evG evG)) ?_ | refine JW_i rfl rfl (fun hp hg => (by have hpg := Bool.and_eq_true_iff.2 ⟨hp, hg⟩; have hg0 := hg; (try simp at hg); exact op_neq evG evG)) ?_)
  refine JW_1 (op_or (Ev.rfl' rfl) rfl (fun h => by first | exact SubL.rfl' | exact SubL.iteT (by first | (rw [h]; rfl) | (simp_all; done)) SubL.rfl')) ?_
  refine JW_1 (op_move rfl) ?_
  (first | refine JW_i0 rfl rfl (fun hg => (by have hg0 := hg; (try simp at hg); first | exact op_loadRefsN (n := 9) evG rfl rfl rfl (by rfl) nrmT | exact op_loadPtrsN (n := 9) evG memT (by rfl) (by rfl) (by rfl) (by rfl) nrmT)) ?_ | refine JW_i rfl rfl (fun hp hg => (by have hpg := Bool.and_eq_true_iff.2 ⟨hp, hg⟩; have hg0 := hg; (try simp at hg); first | exact op_loadRefsN (n := 9) evG rfl rfl rfl (by rfl) nrmT | exact op_loadPtrsN (n := 9) evG memT (by rfl) (by rfl) (by rfl) (by rfl) nrmT)) ?_)
  (first | refine JW_i0 rfl rfl (fun hg => (by have hg0 := hg; (try simp at hg); first | exact op_loadRefsN (n := 9) evG rfl rfl rfl (by rfl) nrmT | exact op_loadPtrsN (n := 9) evG memT (by rfl) (by rfl) (by rfl) (by rfl) nrmT)) ?_ | refine JW_i rfl rfl (fun hp hg => (by have hpg := Bool.and_eq_true_iff.2 ⟨hp, hg⟩; have hg0 := hg; (try simp at hg); first | exact op_loadRefsN (n := 9) evG rfl rfl rfl (by rfl) nrmT | exact op_loadPtrsN (n := 9) evG memT (by rfl) (by rfl) (by rfl) (by rfl) nrmT)) ?_)
  (first | refine JW_i0 rfl rfl (fun hg => (by have hg0 := hg; (try simp at hg); exact op_call Tryd.call14 (same_refl _) ⟨evS, ⟨evS, trivial⟩⟩)) ?_ | refine JW_i rfl rfl (fun hp hg => (by have hpg := Bool.and_eq_true_iff.2 ⟨hp, hg⟩; have hg0 := hg; (try simp at hg); exact op_call Tryd.call14 (same_refl _) ⟨evS, ⟨evS, trivial⟩⟩)) ?_)
  (first | refine JW_i0 rfl rfl (fun hg => (by have hg0 := hg; (try simp at hg); exact op_not evG)) ?_ | refine JW_i rfl rfl (fun hp hg => (by have hpg := Bool.and_eq_true_iff.2 ⟨hp, hg⟩; have hg0 := hg; (try simp at hg); exact op_not evG)) ?_)
  refine JW_1 (op_or (Ev.rfl' rfl) rfl (fun h => by first | exact SubL.rfl' | exact SubL.iteT (by first | (rw [h]; rfl) | (simp_all; done)) SubL.rfl')) ?_
  refine JW_1 (op_move rfl) ?_
  (first | refine JW_i0 rfl rfl (fun hg => (by have hg0 := hg; (try simp at hg); first | exact op_moveE (Ev.sub rfl (SubL.iteT (by first | assumption | (simp; done) | (simp; omega) | (simp_all; done)) SubL.rfl')) | exact op_moveE (Ev.rfl' rfl))) ?_ | refine JW_i rfl rfl (fun hp hg => (by have hpg := Bool.and_eq_true_iff.2 ⟨hp, hg⟩; have hg0 := hg; (try simp at hg); first | exact op_moveE (Ev.sub rfl (SubL.iteT (by first | assumption | (simp; done) | (simp; omega) | (simp_all; done)) SubL.rfl')) | exact op_moveE (Ev.rfl' rfl))) ?_)
  (first | refine JW_i0 rfl rfl (fun hg => (by have hg0 := hg; (try simp at hg); first | exact op_moveE (Ev.sub rfl (SubL.iteT (by first | assumption | (simp; done) | (simp; omega) | (simp_all; done)) SubL.rfl')) | exact op_moveE (Ev.rfl' rfl))) ?_ | refine JW_i rfl rfl (fun hp hg => (by have hpg := Bool.and_eq_true_iff.2 ⟨hp, hg⟩; have hg0 := hg; (try simp at hg); first | exact op_moveE (Ev.sub rfl (SubL.iteT (by first | assumption | (simp; done) | (simp; omega) | (simp_all; done)) SubL.rfl')) | exact op_moveE (Ev.rfl' rfl))) ?_)
  (first | refine JW_i0 rfl rfl (fun hg => (by have hg0 := hg; (try simp at hg); exact op_neq evG evG)) ?_ | refine JW_i rfl rfl (fun hp hg => (by have hpg := Bool.and_eq_true_iff.2 ⟨hp, hg⟩; have hg0 := hg; (try simp at hg); exact op_neq evG evG)) ?_)
  refine JW_1 (op_or (Ev.rfl' rfl) rfl (fun h => by first | exact SubL.rfl' | exact SubL.iteT (by first | (rw [h]; rfl) | (simp_all; done)) SubL.rfl')) ?_
  refine ⟨rfl, ?_⟩
  refine JD_end ?_
  refine JQ_then ?_
  refine JC_cond (Ev.rfl' rfl) (fun h15 => ?_) (fun h15 => ?_)
  · exfalso; simp at h15
  clear h15
  refine JC_skip (JQ_then (JC_seq (JC_seq ?_)))
  refine JC_region ?_
  refine JL_1 rfl (op_move rfl) ?_
  refine JL_1 rfl (op_neq (Ev.rfl' rfl) (Ev.rfl' rfl)) ?_
  refine JL_nil ?_
  refine JQ_then ?_
  refine JC_cond (Ev.rfl' rfl) (fun h17 => ?_) (fun h17 => ?_)
  · refine JC_seq ?_
    refine JC_region ?_
    refine JL_1 rfl (op_assign rfl) ?_
    refine JL_nil ?_
    refine JQ_then (JC_ret (JQ_then_ret ?_))
    refine JQ_ret1 Tryd.results3 rfl () (SubL.eq ?_) (List.nil_sublist _)
    rfl
  obtain ⟨hl, hv, hw⟩ := write_ok (p := q) (r := s) (by simpa using h17)
  clear h17
  refine JC_blkEq (b := i12) replT (show tPg.cells (writeR q s).1 = tPg.cells (writeV q s) by rw [hw]) ?_
  refine JC_skip (JQ_then (JC_seq ?_))
  refine JC_region ?_
  refine JL_1 rfl (by first | exact op_loadRefsN (n := 9) (Ev.rfl' rfl) rfl rfl rfl (by rfl) nrmT | exact op_loadPtrsN (n := 9) (Ev.rfl' rfl) memT (by rfl) (by rfl) (by rfl) (by rfl) nrmT) ?_
  refine JL_1 rfl (by first | ((refine op_callK Tryd.call8 (ReadRoot_ok (writeV q s)) ⟨evS, trivial⟩ memT))) ?_
  refine JL_1 rfl (op_move rfl) ?_
  refine JL_1 rfl (op_extract (Ev.rfl' rfl) rfl) ?_
  refine JL_1 rfl (op_extract (Ev.rfl' rfl) rfl) ?_
  (refine JL_n rfl (op_allocN rfl nrmT rfl) ?_; intro i16)
  refine JL_s0 (op_storeN (Ev.rfl' rfl) (Ev.rfl' rfl) cellsT replT nrmT (by rfl) (by rfl) (by rfl)) ?_
  refine JL_1 rfl (op_assign rfl) ?_
  refine JL_nil ?_
  refine JQ_then (JC_seq (JC_seq ?_))
  rw [back_root hl hv]
  refine JC_region ?_
  refine JL_1 rfl (op_move rfl) ?_
  refine JL_1 rfl (op_neq (Ev.rfl' rfl) (Ev.rfl' rfl)) ?_
  refine JL_1 rfl (op_move rfl) ?_
  (first | refine JL_i0 rfl rfl rfl (fun hg => (by have hg0 := hg; (try simp at hg); first | exact op_loadRefsN (n := 11) evG rfl rfl rfl (by rfl) nrmT | exact op_loadPtrsN (n := 11) evG memT (by rfl) (by rfl) (by rfl) (by rfl) nrmT)) ?_ | refine JL_i rfl rfl rfl (fun hp hg => (by have hpg := Bool.and_eq_true_iff.2 ⟨hp, hg⟩; have hg0 := hg; (try simp at hg); first | exact op_loadRefsN (n := 11) evG rfl rfl rfl (by rfl) nrmT | exact op_loadPtrsN (n := 11) evG memT (by rfl) (by rfl) (by rfl) (by rfl) nrmT)) ?_)
  (first | refine JL_i0 rfl rfl rfl (fun hg => (by have hg0 := hg; (try simp at hg); first | exact op_loadRefsN (n := 11) evG rfl rfl rfl (by rfl) nrmT | exact op_loadPtrsN (n := 11) evG memT (by rfl) (by rfl) (by rfl) (by rfl) nrmT)) ?_ | refine JL_i rfl rfl rfl (fun hp hg => (by have hpg := Bool.and_eq_true_iff.2 ⟨hp, hg⟩; have hg0 := hg; (try simp at hg); first | exact op_loadRefsN (n := 11) evG rfl rfl rfl (by rfl) nrmT | exact op_loadPtrsN (n := 11) evG memT (by rfl) (by rfl) (by rfl) (by rfl) nrmT)) ?_)
  (first | refine JL_i0 rfl rfl rfl (fun hg => (by have hg0 := hg; (try simp at hg); exact op_cmpA (vs := Rt.cells s) (ws := Rt.cells s) evG evG (eqRt_guard _ _ _ s s) (eqRt_neq s s))) ?_ | refine JL_i rfl rfl rfl (fun hp hg => (by have hpg := Bool.and_eq_true_iff.2 ⟨hp, hg⟩; have hg0 := hg; (try simp at hg); exact op_cmpA (vs := Rt.cells s) (ws := Rt.cells s) evG evG (eqRt_guard _ _ _ s s) (eqRt_neq s s))) ?_)
  refine JL_1 rfl (op_or (Ev.rfl' rfl) rfl (fun h => by first | exact SubL.rfl' | exact SubL.iteT (by first | (rw [h]; rfl) | (simp_all; done)) SubL.rfl')) ?_
  refine JL_1 rfl (op_move rfl) ?_
  (first | refine JL_i0 rfl rfl rfl (fun hg => (by have hg0 := hg; (try simp at hg); first | exact op_fieldPtr (k := 2) evG rfl rfl rfl rfl | exact op_fieldRefN (k := 2) evG rfl rfl rfl rfl nrmT)) ?_ | refine JL_i rfl rfl rfl (fun hp hg => (by have hpg := Bool.and_eq_true_iff.2 ⟨hp, hg⟩; have hg0 := hg; (try simp at hg); first | exact op_fieldPtr (k := 2) evG rfl rfl rfl rfl | exact op_fieldRefN (k := 2) evG rfl rfl rfl rfl nrmT)) ?_)
  (first | refine JL_i0 rfl rfl rfl (fun hg => (by have hg0 := hg; (try simp at hg); exact op_indexArr (k := 0) (sz := 1) evG evG rfl rfl idxT (by first | decide | omega))) ?_ | refine JL_i rfl rfl rfl (fun hp hg => (by have hpg := Bool.and_eq_true_iff.2 ⟨hp, hg⟩; have hg0 := hg; (try simp at hg); exact op_indexArr (k := 0) (sz := 1) evG evG rfl rfl idxT (by first | decide | omega))) ?_)
  (first | refine JL_i0 rfl rfl rfl (fun hg => (by have hg0 := hg; (try simp at hg); first | exact op_loadRef evG rfl rfl rfl | exact op_loadPtr evG memT (by rfl) (by rfl) (by rfl))) ?_ | refine JL_i rfl rfl rfl (fun hp hg => (by have hpg := Bool.and_eq_true_iff.2 ⟨hp, hg⟩; have hg0 := hg; (try simp at hg); first | exact op_loadRef evG rfl rfl rfl | exact op_loadPtr evG memT (by rfl) (by rfl) (by rfl))) ?_)
  (first | refine JL_i0 rfl rfl rfl (fun hg => (by have hg0 := hg; (try simp at hg); first | exact op_fieldPtr (k := 2) evG rfl rfl rfl rfl | exact op_fieldRefN (k := 2) evG rfl rfl rfl rfl nrmT)) ?_ | refine JL_i rfl rfl rfl (fun hp hg => (by have hpg := Bool.and_eq_true_iff.2 ⟨hp, hg⟩; have hg0 := hg; (try simp at hg); first | exact op_fieldPtr (k := 2) evG rfl rfl rfl rfl | exact op_fieldRefN (k := 2) evG rfl rfl rfl rfl nrmT)) ?_)
  (first | refine JL_i0 rfl rfl rfl (fun hg => (by have hg0 := hg; (try simp at hg); exact op_indexArr (k := 0) (sz := 1) evG evG rfl rfl idxT (by first | decide | omega))) ?_ | refine JL_i rfl rfl rfl (fun hp hg => (by have hpg := Bool.and_eq_true_iff.2 ⟨hp, hg⟩; have hg0 := hg; (try simp at hg); exact op_indexArr (k := 0) (sz := 1) evG evG rfl rfl idxT (by first | decide | omega))) ?_)
  (first | refine JL_i0 rfl rfl rfl (fun hg => (by have hg0 := hg; (try simp at hg); first | exact op_loadRef evG rfl rfl rfl | exact op_loadPtr evG memT (by rfl) (by rfl) (by rfl))) ?_ | refine JL_i rfl rfl rfl (fun hp hg => (by have hpg := Bool.and_eq_true_iff.2 ⟨hp, hg⟩; have hg0 := hg; (try simp at hg); first | exact op_loadRef evG rfl rfl rfl | exact op_loadPtr evG memT (by rfl) (by rfl) (by rfl))) ?_)
  (first | refine JL_i0 rfl rfl rfl (fun hg => (by have hg0 := hg; (try simp at hg); exact op_neq evG evG)) ?_ | refine JL_i rfl rfl rfl (fun hp hg => (by have hpg := Bool.and_eq_true_iff.2 ⟨hp, hg⟩; have hg0 := hg; (try simp at hg); exact op_neq evG evG)) ?_)
  refine JL_1 rfl (op_or (Ev.rfl' rfl) rfl (fun h => by first | exact SubL.rfl' | exact SubL.iteT (by first | (rw [h]; rfl) | (simp_all; done)) SubL.rfl')) ?_
  refine JL_1 rfl (op_move rfl) ?_
  (first | refine JL_i0 rfl rfl rfl (fun hg => (by have hg0 := hg; (try simp at hg); first | exact op_fieldPtr (k := 2) evG rfl rfl rfl rfl | exact op_fieldRefN (k := 2) evG rfl rfl rfl rfl nrmT)) ?_ | refine JL_i rfl rfl rfl (fun hp hg => (by have hpg := Bool.and_eq_true_iff.2 ⟨hp, hg⟩; have hg0 := hg; (try simp at hg); first | exact op_fieldPtr (k := 2) evG rfl rfl rfl rfl | exact op_fieldRefN (k := 2) evG rfl rfl rfl rfl nrmT)) ?_)
  (first | refine JL_i0 rfl rfl rfl (fun hg => (by have hg0 := hg; (try simp at hg); exact op_indexArr (k := 4) (sz := 1) evG evG rfl rfl idxT (by first | decide | omega))) ?_ | refine JL_i rfl rfl rfl (fun hp hg => (by have hpg := Bool.and_eq_true_iff.2 ⟨hp, hg⟩; have hg0 := hg; (try simp at hg); exact op_indexArr (k := 4) (sz := 1) evG evG rfl rfl idxT (by first | decide | omega))) ?_)
  (first | refine JL_i0 rfl rfl rfl (fun hg => (by have hg0 := hg; (try simp at hg); first | exact op_loadRef evG rfl rfl rfl | exact op_loadPtr evG memT (by rfl) (by rfl) (by rfl))) ?_ | refine JL_i rfl rfl rfl (fun hp hg => (by have hpg := Bool.and_eq_true_iff.2 ⟨hp, hg⟩; have hg0 := hg; (try simp at hg); first | exact op_loadRef evG rfl rfl rfl | exact op_loadPtr evG memT (by rfl) (by rfl) (by rfl))) ?_)
  (first | refine JL_i0 rfl rfl rfl (fun hg => (by have hg0 := hg; (try simp at hg); first | exact op_fieldPtr (k := 2) evG rfl rfl rfl rfl | exact op_fieldRefN (k := 2) evG rfl rfl rfl rfl nrmT)) ?_ | refine JL_i rfl rfl rfl (fun hp hg => (by have hpg := Bool.and_eq_true_iff.2 ⟨hp, hg⟩; have hg0 := hg; (try simp at hg); first | exact op_fieldPtr (k := 2) evG rfl rfl rfl rfl | exact op_fieldRefN (k := 2) evG rfl rfl rfl rfl nrmT)) ?_)
  (first | refine JL_i0 rfl rfl rfl (fun hg => (by have hg0 := hg; (try simp at hg); exact op_indexArr (k := 4) (sz := 1) evG evG rfl rfl idxT (by first | decide | omega))) ?_ | refine JL_i rfl rfl rfl (fun hp hg => (by have hpg := Bool.and_eq_true_iff.2 ⟨hp, hg⟩; have hg0 := hg; (try simp at hg); exact op_indexArr (k := 4) (sz := 1) evG evG rfl rfl idxT (by first | decide | omega))) ?_)
  (first | refine JL_i0 rfl rfl rfl (fun hg => (by have hg0 := hg; (try simp at hg); first | exact op_loadRef evG rfl rfl rfl | exact op_loadPtr evG memT (by rfl) (by rfl) (by rfl))) ?_ | refine JL_i rfl rfl rfl (fun hp hg => (by have hpg := Bool.and_eq_true_iff.2 ⟨hp, hg⟩; have hg0 := hg; (try simp at hg); first | exact op_loadRef evG rfl rfl rfl | exact op_loadPtr evG memT (by rfl) (by rfl) (by rfl))) ?_)
  (first | refine JL_i0 rfl rfl rfl (fun hg => (by have hg0 := hg; (try simp at hg); exact op_neq evG evG)) ?_ | refine JL_i rfl rfl rfl (fun hp hg => (by have hpg := Bool.and_eq_true_iff.2 ⟨hp, hg⟩; have hg0 := hg; (try simp at hg); exact op_neq evG evG)) ?_)
  refine JL_1 rfl (op_or (Ev.rfl' rfl) rfl (fun h => by first | exact SubL.rfl' | exact SubL.iteT (by first | (rw [h]; rfl) | (simp_all; done)) SubL.rfl')) ?_
  refine JL_1 rfl (op_move rfl) ?_
  (first | refine JL_i0 rfl rfl rfl (fun hg => (by have hg0 := hg; (try simp at hg); first | exact op_fieldPtr (k := 2) evG rfl rfl rfl rfl | exact op_fieldRefN (k := 2) evG rfl rfl rfl rfl nrmT)) ?_ | refine JL_i rfl rfl rfl (fun hp hg => (by have hpg := Bool.and_eq_true_iff.2 ⟨hp, hg⟩; have hg0 := hg; (try simp at hg); first | exact op_fieldPtr (k := 2) evG rfl rfl rfl rfl | exact op_fieldRefN (k := 2) evG rfl rfl rfl rfl nrmT)) ?_)
  (first | refine JL_i0 rfl rfl rfl (fun hg => (by have hg0 := hg; (try simp at hg); exact op_indexArr (k := 5) (sz := 1) evG evG rfl rfl idxT (by first | decide | omega))) ?_ | refine JL_i rfl rfl rfl (fun hp hg => (by have hpg := Bool.and_eq_true_iff.2 ⟨hp, hg⟩; have hg0 := hg; (try simp at hg); exact op_indexArr (k := 5) (sz := 1) evG evG rfl rfl idxT (by first | decide | omega))) ?_)
  (first | refine JL_i0 rfl rfl rfl (fun hg => (by have hg0 := hg; (try simp at hg); first | exact op_loadRef evG rfl rfl rfl | exact op_loadPtr evG memT (by rfl) (by rfl) (by rfl))) ?_ | refine JL_i rfl rfl rfl (fun hp hg => (by have hpg := Bool.and_eq_true_iff.2 ⟨hp, hg⟩; have hg0 := hg; (try simp at hg); first | exact op_loadRef evG rfl rfl rfl | exact op_loadPtr evG memT (by rfl) (by rfl) (by rfl))) ?_)
  (first | refine JL_i0 rfl rfl rfl (fun hg => (by have hg0 := hg; (try simp at hg); first | exact op_fieldPtr (k := 2) evG rfl rfl rfl rfl | exact op_fieldRefN (k := 2) evG rfl rfl rfl rfl nrmT)) ?_ | refine JL_i rfl rfl rfl (fun hp hg => (by have hpg := Bool.and_eq_true_iff.2 ⟨hp, hg⟩; have hg0 := hg; (try simp at hg); first | exact op_fieldPtr (k := 2) evG rfl rfl rfl rfl | exact op_fieldRefN (k := 2) evG rfl rfl rfl rfl nrmT)) ?_)
  (first | refine JL_i0 rfl rfl rfl (fun hg => (by have hg0 := hg; (try simp at hg); exact op_indexArr (k := 5) (sz := 1) evG evG rfl rfl idxT (by first | decide | omega))) ?_ | refine JL_i rfl rfl rfl (fun hp hg => (by have hpg := Bool.and_eq_true_iff.2 ⟨hp, hg⟩; have hg0 := hg; (try simp at hg); exact op_indexArr (k := 5) (sz := 1) evG evG rfl rfl idxT (by first | decide | omega))) ?_)
  (first | refine JL_i0 rfl rfl rfl (fun hg => (by have hg0 := hg; (try simp at hg); first | exact op_loadRef evG rfl rfl rfl | exact op_loadPtr evG memT (by rfl) (by rfl) (by rfl))) ?_ | refine JL_i rfl rfl rfl (fun hp hg => (by have hpg := Bool.and_eq_true_iff.2 ⟨hp, hg⟩; have hg0 := hg; (try simp at hg); first | exact op_loadRef evG rfl rfl rfl | exact op_loadPtr evG memT (by rfl) (by rfl) (by rfl))) ?_)
  (first | refine JL_i0 rfl rfl rfl (fun hg => (by have hg0 := hg; (try simp at hg); exact op_neq evG evG)) ?_ | refine JL_i rfl rfl rfl (fun hp hg => (by have hpg := Bool.and_eq_true_iff.2 ⟨hp, hg⟩; have hg0 := hg; (try simp at hg); exact op_neq evG evG)) ?_)
  refine JL_1 rfl (op_or (Ev.rfl' rfl) rfl (fun h => by first | exact SubL.rfl' | exact SubL.iteT (by first | (rw [h]; rfl) | (simp_all; done)) SubL.rfl')) ?_
  refine JL_1 rfl (op_move rfl) ?_
  (first | refine JL_i0 rfl rfl rfl (fun hg => (by have hg0 := hg; (try simp at hg); first | exact op_fieldPtr (k := 2) evG rfl rfl rfl rfl | exact op_fieldRefN (k := 2) evG rfl rfl rfl rfl nrmT)) ?_ | refine JL_i rfl rfl rfl (fun hp hg => (by have hpg := Bool.and_eq_true_iff.2 ⟨hp, hg⟩; have hg0 := hg; (try simp at hg); first | exact op_fieldPtr (k := 2) evG rfl rfl rfl rfl | exact op_fieldRefN (k := 2) evG rfl rfl rfl rfl nrmT)) ?_)
  (first | refine JL_i0 rfl rfl rfl (fun hg => (by have hg0 := hg; (try simp at hg); exact op_indexArr (k := 6) (sz := 1) evG evG rfl rfl idxT (by first | decide | omega))) ?_ | refine JL_i rfl rfl rfl (fun hp hg => (by have hpg := Bool.and_eq_true_iff.2 ⟨hp, hg⟩; have hg0 := hg; (try simp at hg); exact op_indexArr (k := 6) (sz := 1) evG evG rfl rfl idxT (by first | decide | omega))) ?_)
  (first | refine JL_i0 rfl rfl rfl (fun hg => (by have hg0 := hg; (try simp at hg); first | exact op_loadRef evG rfl rfl rfl | exact op_loadPtr evG memT (by rfl) (by rfl) (by rfl))) ?_ | refine JL_i rfl rfl rfl (fun hp hg => (by have hpg := Bool.and_eq_true_iff.2 ⟨hp, hg⟩; have hg0 := hg; (try simp at hg); first | exact op_loadRef evG rfl rfl rfl | exact op_loadPtr evG memT (by rfl) (by rfl) (by rfl))) ?_)
  (first | refine JL_i0 rfl rfl rfl (fun hg => (by have hg0 := hg; (try simp at hg); first | exact op_fieldPtr (k := 2) evG rfl rfl rfl rfl | exact op_fieldRefN (k := 2) evG rfl rfl rfl rfl nrmT)) ?_ | refine JL_i rfl rfl rfl (fun hp hg => (by have hpg := Bool.and_eq_true_iff.2 ⟨hp, hg⟩; have hg0 := hg; (try simp at hg); first | exact op_fieldPtr (k := 2) evG rfl rfl rfl rfl | exact op_fieldRefN (k := 2) evG rfl rfl rfl rfl nrmT)) ?_)
  (first | refine JL_i0 rfl rfl rfl (fun hg => (by have hg0 := hg; (try simp at hg); exact op_indexArr (k := 6) (sz := 1) evG evG rfl rfl idxT (by first | decide | omega))) ?_ | refine JL_i rfl rfl rfl (fun hp hg => (by have hpg := Bool.and_eq_true_iff.2 ⟨hp, hg⟩; have hg0 := hg; (try simp at hg); exact op_indexArr (k := 6) (sz := 1) evG evG rfl rfl idxT (by first | decide | omega))) ?_)
  (first | refine JL_i0 rfl rfl rfl (fun hg => (by have hg0 := hg; (try simp at hg); first | exact op_loadRef evG rfl rfl rfl | exact op_loadPtr evG memT (by rfl) (by rfl) (by rfl))) ?_ | refine JL_i rfl rfl rfl (fun hp hg => (by have hpg := Bool.and_eq_true_iff.2 ⟨hp, hg⟩; have hg0 := hg; (try simp at hg); first | exact op_loadRef evG rfl rfl rfl | exact op_loadPtr evG memT (by rfl) (by rfl) (by rfl))) ?_)
  (first | refine JL_i0 rfl rfl rfl (fun hg => (by have hg0 := hg; (try simp at hg); exact op_neq evG evG)) ?_ | refine JL_i rfl rfl rfl (fun hp hg => (by have hpg := Bool.and_eq_true_iff.2 ⟨hp, hg⟩; have hg0 := hg; (try simp at hg); exact op_neq evG evG)) ?_)
  refine JL_1 rfl (op_or (Ev.rfl' rfl) rfl (fun h => by first | exact SubL.rfl' | exact SubL.iteT (by first | (rw [h]; rfl) | (simp_all; done)) SubL.rfl')) ?_
  refine JL_nil ?_
  refine JQ_then ?_
  refine JC_cond (Ev.rfl' rfl) (fun h20 => ?_) (fun h20 => ?_)
  · exfalso; simp [writeV, writeK] at h20
  clear h20
  obtain ⟨b, hb⟩ : ∃ b : Nat, n.tdiv 24 % 64 = b := ⟨(n.tdiv 24 % 64).toNat, by omega⟩
  obtain ⟨j, hj⟩ : ∃ j : Nat, 1 + n.tdiv 8 % 3 = j := ⟨(1 + n.tdiv 8 % 3).toNat, by omega⟩
  have hj7 : j < 7 := by omega
  obtain ⟨dx, hdx⟩ := data_cell (writeV q s) hj7
  have hcl : (tPg.cells (writeV q s)).length = 9 := rfl
  have hof : 0 + 2 + j * 1 = 2 + j := by omega
  refine JC_skip (JQ_then (JC_seq ?_))
  refine JC_dr rfl (by kernel_rfl) ?_
  refine JD_stretch 15 (by kernel_rfl) ?_
  refine JW_1 (op_move rfl) ?_
  refine JW_1 (op_quo (Ev.rfl' rfl) (Ev.rfl' rfl) (by omega) wrapT) ?_
  refine JW_1 (by first | ((refine op_call Tryd.call6 (PickH_ok _ _ ?_ ?_) ⟨evS, ⟨evS, trivial⟩⟩); all_goals (first | omega))) ?_
  refine JW_1 (op_add (Ev.rfl' rfl) (Ev.rfl' rfl) wrapT) ?_
  refine JW_1 (by first | exact op_fieldPtr (k := 2) (Ev.rfl' rfl) rfl rfl rfl rfl | exact op_fieldRefN (k := 2) (Ev.rfl' rfl) rfl rfl rfl rfl nrmT) ?_
  refine JW_1 (op_indexArr (k := j) (sz := 1) (Ev.rfl' rfl) (Ev.rfl' rfl) rfl rfl idxT (by first | decide | omega)) ?_
  refine JW_1 (op_loadPtr (Ev.rfl' rfl) (As := tPg.cells (writeV q s)) memT rfl rfl (by rw [hof]; exact hdx)) ?_
  refine JW_1 (op_move rfl) ?_
  refine JW_1 (op_quo (Ev.rfl' rfl) (Ev.rfl' rfl) (by omega) wrapT) ?_
  refine JW_1 (by first | ((refine op_call Tryd.call6 (PickH_ok _ _ ?_ ?_) ⟨evS, ⟨evS, trivial⟩⟩); all_goals (first | omega))) ?_
  refine JW_1 (op_conv (Ev.rfl' rfl) rfl rfl convT) ?_
  refine JW_1 (by first | exact op_shlU (k := b) ev64 (Ev.rfl' rfl) (by first | omega | exact UV_nonneg _) idxT | exact op_shl (Ev.rfl' rfl) (Ev.rfl' rfl) (by first | omega | exact UV_nonneg _) rfl) ?_
  refine JW_1 (by first | exact op_bits ev64 ev64 (by simp) (xor_u64 _ _) | exact op_bits (Ev.rfl' rfl) (Ev.rfl' rfl) (by simp) rfl) ?_
  refine JW_1 (by first | exact op_fieldPtr (k := 2) (Ev.rfl' rfl) rfl rfl rfl rfl | exact op_fieldRefN (k := 2) (Ev.rfl' rfl) rfl rfl rfl rfl nrmT) ?_
  refine JW_1 (op_indexArr (k := j) (sz := 1) (Ev.rfl' rfl) (Ev.rfl' rfl) rfl rfl idxT (by first | decide | omega)) ?_
  refine ⟨rfl, ?_⟩
  refine JD_s0 (by kernel_rfl) rfl (op_storeA (n := 1) (Rs := tPg.cells ((writeV q s).setd j (dx ^^^ 1#64 <<< b))) (Ev.rfl' rfl) (Ev.rfl' rfl) cellsT replT (by rw [hof]; exact (setd_cells (writeV q s) _ hj7).symm) (by rfl) (by rfl) (by first | (simp; done) | (simp; omega) | omega)) ?_
  refine JD_end ?_
  refine JQ_then (JC_seq ?_)
  generalize (writeV q s).setd j (dx ^^^ 1#64 <<< b) = q2
  refine JC_region ?_
  refine JL_1 rfl (by first | exact op_loadRefsN (n := 9) (Ev.rfl' rfl) rfl rfl rfl (by rfl) nrmT | exact op_loadPtrsN (n := 9) (Ev.rfl' rfl) memT (by rfl) (by rfl) (by rfl) (by rfl) nrmT) ?_
  refine JL_1 rfl (by first | ((refine op_callK Tryd.call8 (ReadRoot_ok q2) ⟨evS, trivial⟩ memT))) ?_
  refine JL_1 rfl (op_move rfl) ?_
  refine JL_1 rfl (op_extract (Ev.rfl' rfl) rfl) ?_
  refine JL_1 rfl (op_extract (Ev.rfl' rfl) rfl) ?_
  refine JL_s0 (op_storeN (Ev.rfl' rfl) (Ev.rfl' rfl) cellsT replT nrmT (by rfl) (by rfl) (by rfl)) ?_
  refine JL_1 rfl (op_assign rfl) ?_
  refine JL_nil ?_
  refine JQ_then (JC_seq ?_)
  refine JC_region ?_
  refine JL_1 rfl (by first | exact op_loadRefsN (n := 9) (Ev.rfl' rfl) rfl rfl rfl (by rfl) nrmT | exact op_loadPtrsN (n := 9) (Ev.rfl' rfl) memT (by rfl) (by rfl) (by rfl) (by rfl) nrmT) ?_
  refine JL_1 rfl (op_call Tryd.call9 (ReadRootR_ok q2) ⟨evS, trivial⟩) ?_
  refine JL_1 rfl (op_move rfl) ?_
  refine JL_1 rfl (op_extract (Ev.rfl' rfl) rfl) ?_
  refine JL_1 rfl (op_extract (Ev.rfl' rfl) rfl) ?_
  refine JL_s0 (op_storeN (Ev.rfl' rfl) (Ev.rfl' rfl) cellsT replT nrmT (by rfl) (by rfl) (by rfl)) ?_
  refine JL_1 rfl (op_assign rfl) ?_
  refine JL_nil ?_
  refine JQ_then (JC_seq ?_)
  refine JC_dr rfl (by kernel_rfl) ?_
  refine JD_stretch 10 (by kernel_rfl) ?_
  refine JW_1 (by first | exact op_loadRefsN (n := 11) (Ev.rfl' rfl) rfl rfl rfl (by rfl) nrmT | exact op_loadPtrsN (n := 11) (Ev.rfl' rfl) memT (by rfl) (by rfl) (by rfl) (by rfl) nrmT) ?_
  refine JW_1 (op_call Tryd.call12 (root_ok2 _) ⟨evS, trivial⟩) ?_
  refine JW_1 (by first | exact op_loadRefsN (n := 11) (Ev.rfl' rfl) rfl rfl rfl (by rfl) nrmT | exact op_loadPtrsN (n := 11) (Ev.rfl' rfl) memT (by rfl) (by rfl) (by rfl) (by rfl) nrmT) ?_
  refine JW_1 (op_cmpA (vs := Rt.cells (readR q2).1) (ws := Rt.cells (readR q2).1) (Ev.rfl' rfl) (Ev.rfl' rfl) (eqRtR_guard _ _ _ (readR q2).1 (readR q2).1) (eqRtR_eql (readR q2).1 (readR q2).1)) ?_
  refine JW_1 (op_move rfl) ?_
  (first | refine JW_i0 rfl rfl (fun hg => (by have hg0 := hg; (try simp at hg); first | exact op_moveE (Ev.sub rfl (SubL.iteT (by first | assumption | (simp; done) | (simp; omega) | (simp_all; done)) SubL.rfl')) | exact op_moveE (Ev.rfl' rfl))) ?_ | refine JW_i rfl rfl (fun hp hg => (by have hpg := Bool.and_eq_true_iff.2 ⟨hp, hg⟩; have hg0 := hg; (try simp at hg); first | exact op_moveE (Ev.sub rfl (SubL.iteT (by first | assumption | (simp; done) | (simp; omega) | (simp_all; done)) SubL.rfl')) | exact op_moveE (Ev.rfl' rfl))) ?_)
  (first | refine JW_i0 rfl rfl (fun hg => (by have hg0 := hg; (try simp at hg); first | exact op_moveE (Ev.sub rfl (SubL.iteT (by first | assumption | (simp; done) | (simp; omega) | (simp_all; done)) SubL.rfl')) | exact op_moveE (Ev.rfl' rfl))) ?_ | refine JW_i rfl rfl (fun hp hg => (by have hpg := Bool.and_eq_true_iff.2 ⟨hp, hg⟩; have hg0 := hg; (try simp at hg); first | exact op_moveE (Ev.sub rfl (SubL.iteT (by first | assumption | (simp; done) | (simp; omega) | (simp_all; done)) SubL.rfl')) | exact op_moveE (Ev.rfl' rfl))) ?_)
  (first | refine JW_i0 rfl rfl (fun hg => (by have hg0 := hg; (try simp at hg); exact op_eql evG evG)) ?_ | refine JW_i rfl rfl (fun hp hg => (by have hpg := Bool.and_eq_true_iff.2 ⟨hp, hg⟩; have hg0 := hg; (try simp at hg); exact op_eql evG evG)) ?_)
  refine JW_1 (op_and (Ev.rfl' rfl) rfl (fun h => by first | exact SubL.rfl' | exact SubL.iteT (by first | (rw [h]; rfl) | (simp_all; done)) SubL.rfl')) ?_
  refine JW_1 (op_assign rfl) ?_
  refine ⟨rfl, ?_⟩
  refine JD_end ?_
  refine JQ_then (JC_ret ?_)
  refine JQ_ret1 Tryd.results3 rfl () (SubL.eq ?_) (List.nil_sublist _)
  simp
end Go.Proofs.YtmcaomdjlepapaaDoor

/- Readers of arrays. Own work. -/
namespace Go.Proofs.YtmcaomdjlepapaaDoor
open Go.RowKit Go.ChangeShapes Go.WideShapes Go.ChangeAt
set_option linter.unusedVariables false
set_option linter.unusedSimpArgs false
section
variable {H : Type} {enc : TypeId × Value → H} {P : Program} {w : World} {base : Nat} {sp : Nat → Bool} {held : Bool}
theorem flat_len {α : Type} (T : Ty α) (xs : List α) : (xs.flatMap T.cells).length = xs.length * T.size := by
  induction xs with
  | nil => simp
  | cons x xs ih => rw [List.flatMap_cons, List.length_append, ih, T.len, List.length_cons, Nat.add_mul]; omega
def tArr {α : Type} (n : Nat) (T : Ty α) : Ty {xs : List α // xs.length = n} := ⟨n * T.size, fun xs => xs.1.flatMap T.cells, fun xs => by rw [flat_len, xs.2]⟩
theorem alls_pieces {α : Type} {T : Ty α} {φ : Fz} (A : Nat → α) : ∀ (n : Nat) (cs : List Value), cs.length = n * T.size → (∀ i, i < n → Alls φ (T.cells (A i)) ((cs.drop (i * T.size)).take T.size)) → Alls φ (((List.range n).map A).flatMap T.cells) cs
  | 0, cs, hl, _ => by
    have : cs = [] := List.eq_nil_of_length_eq_zero (by omega)
    subst this; trivial
  | n + 1, cs, hl, h => by
    have e2 : (n + 1) * T.size = n * T.size + T.size := by rw [Nat.add_mul, Nat.one_mul]
    rw [e2] at hl
    have h1 := alls_pieces (T := T) A n (cs.take (n * T.size)) (by rw [List.length_take, hl]; omega) fun i hi => by
      have h2 := h i (by omega)
      have e : ((cs.take (n * T.size)).drop (i * T.size)).take T.size = (cs.drop (i * T.size)).take T.size := by
        rw [List.drop_take, List.take_take]
        congr 1
        have : (i + 1) * T.size ≤ n * T.size := Nat.mul_le_mul_right _ hi
        rw [Nat.add_mul] at this
        omega
      rw [e]; exact h2
    have h3 := h n (by omega)
    rw [List.take_of_length_le (by rw [List.length_drop, hl]; omega)] at h3
    rw [List.range_succ, List.map_append, List.flatMap_append]
    have h4 := h1.append h3
    rw [List.take_append_drop] at h4
    simpa using h4
theorem rds_array {α : Type} {T : Ty α} {R : α → Prop} {t e : TypeId} {n : Nat} (ht : P.underlying t = some (.array n e)) (hc : P.cellsOf e = T.size) (hct : P.cellsOf t = n * T.size) (hn : Nat.blt 0 n = true) (he : Rds enc P w base sp held e T R) :
    Rds enc P w base sp held t (tArr n T) (fun xs => ∀ a ∈ xs.1, R a) := by
  intro fuel cs x h
  obtain ⟨xs, m, _, _, hlen, hxs, hf⟩ := DataW.trod_array ht h
  rw [hct] at hlen
  rw [hc] at hf
  have key : ∀ i, i < n → ∃ y : α, Alls (phi w) (T.cells y) ((cs.drop (i * T.size)).take T.size) ∧ ones ((cs.drop (i * T.size)).take T.size) ∧ R y := fun i hi => by
    have h1 := hf i hi
    rw [List.getElem?_eq_getElem (by omega)] at h1
    exact he _ _ _ h1
  have hn' : 0 < n := Nat.le_of_ble_eq_true hn
  obtain ⟨y0, _, _⟩ := key 0 hn'
  have : Inhabited α := ⟨y0⟩
  obtain ⟨A, hA⟩ := Go.Deep.choose_lt key
  refine ⟨⟨(List.range n).map A, by simp⟩, alls_pieces A n cs hlen fun i hi => (hA i hi).1, ?_, fun a ha => ?_⟩
  · have hone : ∀ k, k ≤ n → ones (cs.take (k * T.size)) := fun k => by
      induction k with
      | zero => intro _ u hu; simp at hu
      | succ k ih =>
        intro hk u hu
        rw [Nat.add_mul, Nat.one_mul, List.take_add] at hu
        rcases List.mem_append.1 hu with hu | hu
        · exact ih (by omega) u hu
        · exact (hA k (by omega)).2.1 u hu
    have := hone n (Nat.le_refl _)
    rwa [List.take_of_length_le (by omega)] at this
  · obtain ⟨i, hi, rfl⟩ := List.mem_map.1 ha
    exact (hA i (List.mem_range.1 hi)).2.2
end
end Go.Proofs.YtmcaomdjlepapaaDoor

/- The reader of pages. Own work. -/
namespace Go.Proofs.YtmcaomdjlepapaaDoor
open Go.RowKit Go.ChangeShapes Go.WideShapes Go.ChangeAt
set_option linter.unusedVariables false
set_option linter.unusedSimpArgs false
set_option maxRecDepth 100000
section
variable {H : Type} {enc : TypeId × Value → H} {w : World} {base : Nat} {sp : Nat → Bool} {held : Bool}
def Pg.wf (p : Pg) : Prop := I64ok p.l
theorem c9_Pg : Tryd.prog.cellsOf 25 = 9 := by kernel_rfl
theorem c9_A7 : Tryd.prog.cellsOf 23 = 7 := by kernel_rfl
theorem c9_u64 : Tryd.prog.cellsOf 22 = 1 := by kernel_rfl
theorem c9_int : Tryd.prog.cellsOf 3 = 1 := by kernel_rfl
theorem rds_Pg : Rds enc Tryd.prog w base sp held 25 tPg Pg.wf := by
  intro fuel cs x h
  obtain ⟨xs, n, _, _, hlen, hxs, hf⟩ := DataW.trod_struct Tryd.underlying25 h
  rw [c9_Pg] at hlen
  match cs, hlen with
  | [c0, c1, c2, c3, c4, c5, c6, c7, c8], _ =>
    match xs, hxs with
    | [x0, x1, x2], _ =>
      have f0 : DataW.trod enc Tryd.prog w base sp held n 3 (([c0, c1, c2, c3, c4, c5, c6, c7, c8].drop 0).take (Tryd.prog.cellsOf 3)) = some x0 := hf 0 _ rfl
      have f1 : DataW.trod enc Tryd.prog w base sp held n 22 (([c0, c1, c2, c3, c4, c5, c6, c7, c8].drop 1).take (Tryd.prog.cellsOf 22)) = some x1 := hf 1 _ rfl
      have f2 : DataW.trod enc Tryd.prog w base sp held n 23 (([c0, c1, c2, c3, c4, c5, c6, c7, c8].drop 2).take (Tryd.prog.cellsOf 23)) = some x2 := hf 2 _ rfl
      rw [c9_int] at f0
      rw [c9_u64] at f1
      rw [c9_A7] at f2
      obtain ⟨l, g0, o0, w0⟩ := (rds_i64 Tryd.underlying3) _ _ _ f0
      obtain ⟨hd, g1, o1, _⟩ := (rds_u64 Tryd.underlying22) _ _ _ f1
      obtain ⟨⟨ds, hl⟩, g2, o2, _⟩ := (rds_array Tryd.underlying23 (T := tU64) c9_u64 c9_A7 rfl (rds_u64 Tryd.underlying22)) _ _ _ f2
      match ds, hl with
      | [d0, d1, d2, d3, d4, d5, d6], _ => exact ⟨⟨l, hd, d0, d1, d2, d3, d4, d5, d6⟩, (g0.append g1).append g2, ones_app (ones_app o0 o1) o2, w0⟩
end
end Go.Proofs.YtmcaomdjlepapaaDoor

/- The readers of pointers and roots. Own work. -/
namespace Go.Proofs.YtmcaomdjlepapaaDoor
open Go.RowKit Go.ChangeShapes Go.WideShapes Go.ChangeAt
set_option linter.unusedVariables false
set_option linter.unusedSimpArgs false
set_option maxRecDepth 100000
section
variable {H : Type} {enc : TypeId × Value → H} {w : World} {base : Nat} {sp : Nat → Bool} {held : Bool}
def Pt.wf (p : Pt) : Prop := I64ok p.line ∧ I64ok p.gen
def Rt.wf (r : Rt) : Prop := I64ok r.depth
theorem c2_Pt : Tryd.prog.cellsOf 27 = 2 := by kernel_rfl
theorem c11_Rt : Tryd.prog.cellsOf 30 = 11 := by kernel_rfl
theorem c8_A4 : Tryd.prog.cellsOf 28 = 4 * 2 := by kernel_rfl
theorem rds_Pt : Rds enc Tryd.prog w base sp held 27 tPt Pt.wf := by
  intro fuel cs x h
  obtain ⟨xs, n, _, _, hlen, hxs, hf⟩ := DataW.trod_struct Tryd.underlying27 h
  rw [c2_Pt] at hlen
  match cs, hlen with
  | [c0, c1], _ =>
    match xs, hxs with
    | [x0, x1], _ =>
      have f0 : DataW.trod enc Tryd.prog w base sp held n 3 (([c0, c1].drop 0).take (Tryd.prog.cellsOf 3)) = some x0 := hf 0 _ rfl
      have f1 : DataW.trod enc Tryd.prog w base sp held n 3 (([c0, c1].drop 1).take (Tryd.prog.cellsOf 3)) = some x1 := hf 1 _ rfl
      rw [c9_int] at f0 f1
      obtain ⟨a, g0, o0, w0⟩ := (rds_i64 Tryd.underlying3) _ _ _ f0
      obtain ⟨b, g1, o1, w1⟩ := (rds_i64 Tryd.underlying3) _ _ _ f1
      exact ⟨⟨a, b⟩, g0.append g1, ones_app o0 o1, w0, w1⟩
theorem rds_Rt : Rds enc Tryd.prog w base sp held 30 tRt Rt.wf := by
  intro fuel cs x h
  obtain ⟨xs, n, _, _, hlen, hxs, hf⟩ := DataW.trod_struct Tryd.underlying30 h
  rw [c11_Rt] at hlen
  match cs, hlen with
  | [c0, c1, c2, c3, c4, c5, c6, c7, c8, c9, c10], _ =>
    match xs, hxs with
    | [x0, x1, x2], _ =>
      have f0 : DataW.trod enc Tryd.prog w base sp held n 27 (([c0, c1, c2, c3, c4, c5, c6, c7, c8, c9, c10].drop 0).take (Tryd.prog.cellsOf 27)) = some x0 := hf 0 _ rfl
      have f1 : DataW.trod enc Tryd.prog w base sp held n 3 (([c0, c1, c2, c3, c4, c5, c6, c7, c8, c9, c10].drop 2).take (Tryd.prog.cellsOf 3)) = some x1 := hf 1 _ rfl
      have f2 : DataW.trod enc Tryd.prog w base sp held n 28 (([c0, c1, c2, c3, c4, c5, c6, c7, c8, c9, c10].drop 3).take (Tryd.prog.cellsOf 28)) = some x2 := hf 2 _ rfl
      rw [c2_Pt] at f0
      rw [c9_int] at f1
      rw [c8_A4] at f2
      obtain ⟨p, g0, o0, _⟩ := rds_Pt _ _ _ f0
      obtain ⟨d, g1, o1, w1⟩ := (rds_i64 Tryd.underlying3) _ _ _ f1
      obtain ⟨⟨ds, hl⟩, g2, o2, _⟩ := (rds_array Tryd.underlying28 (T := tPt) c2_Pt c8_A4 rfl rds_Pt) _ _ _ f2
      match ds, hl with
      | [d0, d1, d2, d3], _ => exact ⟨⟨p, d, d0, d1, d2, d3⟩, (g0.append g1).append g2, ones_app (ones_app o0 o1) o2, w1⟩
end
end Go.Proofs.YtmcaomdjlepapaaDoor

/- What the tied card's premise gives: the package variable's cells. Own work. -/
namespace Go.Proofs.YtmcaomdjlepapaaDoor
open Go.ChangeShapes Go.WideShapes Go.ChangeAt Go.WideMaps Go.WideElems Go.RowKit
set_option linter.unusedVariables false
set_option linter.unusedSimpArgs false
set_option maxRecDepth 100000
@[reducible] def laidN {H : Type} : List (String × DataW H) := [("bodega/hashindex.none", Rows.laid_bodega_hashindex_none)]
theorem gNamed : Tryd.prog.globalNamed "bodega/hashindex.none" = some 0 := by kernel_rfl
theorem tNamed : (Tryd.prog.globals[0]?).map (·.type) = some 27 := by kernel_rfl
theorem door_met (os : Os) (args : Array Value) : laidMetH Tryd.prog (laidN (H := Unit)) ((World.doorLaid Tryd.prog 14 os).forCall (fun _ _ => 0) ⟨#[], args, []⟩).memory :=
  laidMetH_of_parts3 (fuel := 8) (laidMet_of_run' 8 (by kernel_rfl) (by kernel_rfl)) (by kernel_rfl) (by kernel_rfl)
theorem of_laid {W : World} (h : laidMetH Tryd.prog (laidN (H := Unit)) W) : W.cell? ⟨0, 0, none⟩ = some (.int .i64 0) ∧ W.cell? ⟨0, 1, none⟩ = some (.int .i64 0) := by
  rw [MakeChecks.laidMetH_plain _ _ _ (by kernel_rfl)] at h
  obtain ⟨ps, ⟨g0, t0, cs0, f0, p0, q0, hg0, ht0, hv0, hd0, _⟩, _⟩ := h
  obtain rfl := Option.some.inj (gNamed.symm.trans hg0)
  obtain rfl := Option.some.inj (tNamed.symm.trans ht0)
  obtain ⟨xs, n, e1, e2, hlen, hxs, hf⟩ := DataW.trod_struct Tryd.underlying27 hd0
  rw [c2_Pt] at hlen
  obtain ⟨l⟩ := cs0
  dsimp only at hlen hf
  match l, hlen with
  | [c0, c1], _ =>
    match xs, hxs with
    | [x0, x1], _ =>
      have f0 : DataW.trod _ Tryd.prog W 0 _ false n 3 (([c0, c1].drop 0).take (Tryd.prog.cellsOf 3)) = some x0 := hf 0 _ rfl
      have f1 : DataW.trod _ Tryd.prog W 0 _ false n 3 (([c0, c1].drop 1).take (Tryd.prog.cellsOf 3)) = some x1 := hf 1 _ rfl
      rw [c9_int] at f0 f1
      obtain ⟨a, q1, q2, _⟩ := DataW.trod_int Tryd.underlying3 f0
      obtain ⟨b, q3, q4, _⟩ := DataW.trod_int Tryd.underlying3 f1
      simp only [Rows.laid_bodega_hashindex_none, Prod.mk.injEq, DataW.agg.injEq, List.map_cons, List.map_nil, List.cons.injEq] at e2
      have ha : a = 0 := by rw [q2] at e2; simpa using e2.1.1.symm
      have hb : b = 0 := by rw [q4] at e2; simpa using e2.1.2.1.symm
      subst ha hb
      have k0 := World.var?_cell hg0 hv0 0
      have k1 := World.var?_cell hg0 hv0 1
      simp at q1 q3
      subst q1 q3
      exact ⟨by simpa using k0, by simpa using k1⟩
/-- The fact that the contracts lean on. -/
theorem none_ok {W : World} (h : laidMetH Tryd.prog (laidN (H := Unit)) W) : (IsRef (tPt.cells Pt.nil)).ok (phi W) (.pointer (some ⟨0, 0, none⟩)) := by
  obtain ⟨h0, h1⟩ := of_laid h
  refine ⟨0, 0, rfl, fun j B hj => ?_⟩
  match j, hj with
  | 0, hj => injection hj with hj; subst hj; exact ⟨_, h0, rfl, rfl⟩
  | 1, hj => injection hj with hj; subst hj; exact ⟨_, h1, rfl, rfl⟩
end Go.Proofs.YtmcaomdjlepapaaDoor
