/- Texts of this claim, laid together (part 4): walks of functions, what they compute, and plain laws of it. Own work. -/
import Derived.Test.YtpfojangcgffkaaM3SegmentOnce
/- Contracts: lists of pages and of numbers compared; what a call returns in memory of its own, told as what stays. Own work. -/
namespace Go.Proofs.Ytpfojangcgffkaa
open Go.RowKit
set_option linter.unusedVariables false
set_option linter.unusedSimpArgs false
set_option maxRecDepth 100000
theorem Fn.pgF {P : Program} {f : FuncId} {As : List VP} {n : Nat} {e : TypeId} {xs : List Pg} (h : Fn P f As [] (fun i : Option Addr × Nat => Is (slV n i)) (fun i => [buf (slV n i) e tPg xs])) : FnF P f As (fun B => FreshV B (IsSl tPg xs)) :=
  h.toF (fun _ => ⟨pure_is, pure_is, pure_is, pure_is, pure_is, pure_is, pure_is, pure_is, pure_is, trivial⟩) (fun i B φ v h1 h2 => by rw [show v = slV n i from h2]; exact h1)
theorem Fn.pgP {P : Program} {f : FuncId} {As : List VP} {n : Nat} {e : TypeId} {xs : List Pg} (h : Fn P f As [] (fun i : Option Addr × Nat => Is (slV n i)) (fun i => [buf (slV n i) e tPg xs])) : FnP P f As (IsSl tPg xs) :=
  h.pgF.toP fun B φ v k => (IsSl tPg xs).mono (fresh_le B φ) k
theorem Merge_ok (a b : List Pg) (hn : a.length + b.length ≤ 1048576) : FnP Try.prog 34 [IsSl tPg a, IsSl tPg b] (IsSl tPg (mergeV a b)) := (MergeN_ok a b hn).pgP
theorem MergeR_ok (a b : List Pg) (hn : a.length + b.length ≤ 400000) : FnP Try.prog 35 [IsSl tPg a, IsSl tPg b] (IsSl tPg (mergeV a b)) := (MergeRN_ok a b hn).pgP
theorem Merge_F (a b : List Pg) (hn : a.length + b.length ≤ 1048576) : FnF Try.prog 34 [IsSl tPg a, IsSl tPg b] (fun B => FreshV B (IsSl tPg (mergeV a b))) := (MergeN_ok a b hn).pgF
theorem MergeR_F (a b : List Pg) (hn : a.length + b.length ≤ 400000) : FnF Try.prog 35 [IsSl tPg a, IsSl tPg b] (fun B => FreshV B (IsSl tPg (mergeV a b))) := (MergeRN_ok a b hn).pgF
-- bodegaheap.SamePages: function 33
set_option maxHeartbeats 1000000 in
theorem SamePages_ok (xs ys : List Pg) : FnP Try.prog 33 [IsSl tPg xs, IsSl tPg ys] (Is (.bool (decide (xs = ys)))) := by
  refine FnP.enter Try.func33 Try.ntmps33 rfl rfl ?_
  intro c hX
  refine JC_len (t := 0) rfl (fun hlen => ?_)
  refine JC_seq ?_
  refine JC_region ?_
  refine JL_1 rfl (op_assign rfl) ?_
  refine JL_nil ?_
  refine JQ_then (JC_seq (JC_seq ?_))
  refine JC_region ?_
  refine JL_1 rfl (op_move rfl) ?_
  refine JL_1 rfl (by first | exact op_len (Ev.rfl' rfl) rfl | exact op_lenLit (Ev.rfl' rfl) rfl) ?_
  refine JL_1 rfl (op_move rfl) ?_
  refine JL_1 rfl (by first | exact op_len (Ev.rfl' rfl) rfl | exact op_lenLit (Ev.rfl' rfl) rfl) ?_
  refine JL_1 rfl (op_neq (Ev.rfl' rfl) (Ev.rfl' rfl)) ?_
  refine JL_nil ?_
  refine JQ_then ?_
  refine JC_cond (Ev.rfl' rfl) (fun h1 => ?_) (fun h1 => ?_)
  · have e : xs ≠ ys := by rintro rfl; simp at h1
    refine JC_seq ?_
    refine JC_region ?_
    refine JL_1 rfl (op_assign rfl) ?_
    refine JL_nil ?_
    refine JQ_then (JC_ret (JQ_then_ret ?_))
    refine JQ_ret1 Try.results33 rfl () (SubL.eq ?_) (List.nil_sublist _)
    rw [decide_eq_false e]
  have hl : xs.length = ys.length := by simp at h1; omega
  clear h1
  refine JC_skip (JQ_then (JC_seq (JC_seq ?_)))
  refine JC_region ?_
  refine JL_1 rfl (op_assign rfl) ?_
  refine JL_nil ?_
  refine JQ_then (JC_block ?_)
  refine JC_loopP (fun k : Nat => k ≤ xs.length ∧ xs.take k = ys.take k) (fun k => [(0, IsSl tPg xs), (1, IsSl tPg ys), (5, Is (.int .i64 (k : Nat)))]) (fun _ => []) (fun k => xs.length - k) 0 ⟨Nat.zero_le _, rfl⟩ esubT lessT ?_
  rintro k ⟨hk, hs⟩
  refine JC_seq (JC_seq ?_)
  refine JC_region ?_
  refine JL_1 rfl (op_move rfl) ?_
  refine JL_1 rfl (op_move rfl) ?_
  refine JL_1 rfl (by first | exact op_len (Ev.rfl' rfl) rfl | exact op_lenLit (Ev.rfl' rfl) rfl) ?_
  refine JL_1 rfl (op_lss (Ev.rfl' rfl) (Ev.rfl' rfl)) ?_
  refine JL_nil ?_
  refine JQ_then ?_
  refine JC_cond (Ev.rfl' rfl) (fun h4 => ?_) (fun h4 => ?_)
  · have h' : (k : Int) < xs.length := of_decide_eq_true h4
    clear h4
    obtain ⟨mx, hx⟩ : ∃ m, xs[k]? = some m := ⟨xs[k], List.getElem?_eq_getElem (by omega)⟩
    obtain ⟨my, hy⟩ : ∃ m, ys[k]? = some m := ⟨ys[k], List.getElem?_eq_getElem (by omega)⟩
    have hsp := same_pg mx my
    refine JC_skip (JQ_then (JC_seq (JC_block (JC_seq ?_))))
    refine JC_dr rfl (by kernel_rfl) ?_
    refine JD_stretch 37 (by kernel_rfl) ?_
    refine JW_1 (op_move rfl) ?_
    refine JW_1 (op_move rfl) ?_
    refine JW_1 (by first | exact op_index (j := _) (Ev.rfl' rfl) (Ev.rfl' rfl) rfl rfl (by first | rfl | omega) hx | exact op_index (j := _) (Ev.rfl' rfl) (Ev.rfl' rfl) rfl rfl (by first | rfl | omega) hy | exact op_index (j := _) (Ev.rfl' rfl) (Ev.rfl' rfl) rfl rfl (by first | rfl | omega) (by assumption)) ?_
    refine JW_1 (by first | exact op_fieldPtr (k := 0) (Ev.rfl' rfl) rfl rfl rfl rfl | exact op_fieldRefN (k := 0) (Ev.rfl' rfl) rfl rfl rfl rfl nrmT) ?_
    refine JW_1 (by first | exact op_loadRef (Ev.rfl' rfl) rfl rfl rfl | exact op_loadPtr (Ev.rfl' rfl) memT (by rfl) (by rfl) (by rfl)) ?_
    refine JW_1 (op_move rfl) ?_
    refine JW_1 (op_move rfl) ?_
    refine JW_1 (by first | exact op_index (j := _) (Ev.rfl' rfl) (Ev.rfl' rfl) rfl rfl (by first | rfl | omega) hx | exact op_index (j := _) (Ev.rfl' rfl) (Ev.rfl' rfl) rfl rfl (by first | rfl | omega) hy | exact op_index (j := _) (Ev.rfl' rfl) (Ev.rfl' rfl) rfl rfl (by first | rfl | omega) (by assumption)) ?_
    refine JW_1 (by first | exact op_fieldPtr (k := 0) (Ev.rfl' rfl) rfl rfl rfl rfl | exact op_fieldRefN (k := 0) (Ev.rfl' rfl) rfl rfl rfl rfl nrmT) ?_
    refine JW_1 (by first | exact op_loadRef (Ev.rfl' rfl) rfl rfl rfl | exact op_loadPtr (Ev.rfl' rfl) memT (by rfl) (by rfl) (by rfl)) ?_
    refine JW_1 (op_neq (Ev.rfl' rfl) (Ev.rfl' rfl)) ?_
    refine JW_1 (op_move rfl) ?_
    (first | refine JW_i0 rfl rfl (fun hg => (by have hg0 := hg; (try simp at hg); first | exact op_moveE (Ev.sub rfl (SubL.iteT (by first | assumption | (simp; done) | (simp; omega) | (simp_all; done)) SubL.rfl')) | exact op_moveE (Ev.rfl' rfl))) ?_ | refine JW_i rfl rfl (fun hp hg => (by have hpg := Bool.and_eq_true_iff.2 ⟨hp, hg⟩; have hg0 := hg; (try simp at hg); first | exact op_moveE (Ev.sub rfl (SubL.iteT (by first | assumption | (simp; done) | (simp; omega) | (simp_all; done)) SubL.rfl')) | exact op_moveE (Ev.rfl' rfl))) ?_)
    (first | refine JW_i0 rfl rfl (fun hg => (by have hg0 := hg; (try simp at hg); first | exact op_moveE (Ev.sub rfl (SubL.iteT (by first | assumption | (simp; done) | (simp; omega) | (simp_all; done)) SubL.rfl')) | exact op_moveE (Ev.rfl' rfl))) ?_ | refine JW_i rfl rfl (fun hp hg => (by have hpg := Bool.and_eq_true_iff.2 ⟨hp, hg⟩; have hg0 := hg; (try simp at hg); first | exact op_moveE (Ev.sub rfl (SubL.iteT (by first | assumption | (simp; done) | (simp; omega) | (simp_all; done)) SubL.rfl')) | exact op_moveE (Ev.rfl' rfl))) ?_)
    (first | refine JW_i0 rfl rfl (fun hg => (by have hg0 := hg; (try simp at hg); first | exact op_index (j := _) evG evG rfl rfl (by first | rfl | omega) hx | exact op_index (j := _) evG evG rfl rfl (by first | rfl | omega) hy | exact op_index (j := _) evG evG rfl rfl (by first | rfl | omega) (by assumption))) ?_ | refine JW_i rfl rfl (fun hp hg => (by have hpg := Bool.and_eq_true_iff.2 ⟨hp, hg⟩; have hg0 := hg; (try simp at hg); first | exact op_index (j := _) evG evG rfl rfl (by first | rfl | omega) hx | exact op_index (j := _) evG evG rfl rfl (by first | rfl | omega) hy | exact op_index (j := _) evG evG rfl rfl (by first | rfl | omega) (by assumption))) ?_)
    (first | refine JW_i0 rfl rfl (fun hg => (by have hg0 := hg; (try simp at hg); first | exact op_fieldPtr (k := 1) evG rfl rfl rfl rfl | exact op_fieldRefN (k := 1) evG rfl rfl rfl rfl nrmT)) ?_ | refine JW_i rfl rfl (fun hp hg => (by have hpg := Bool.and_eq_true_iff.2 ⟨hp, hg⟩; have hg0 := hg; (try simp at hg); first | exact op_fieldPtr (k := 1) evG rfl rfl rfl rfl | exact op_fieldRefN (k := 1) evG rfl rfl rfl rfl nrmT)) ?_)
    (first | refine JW_i0 rfl rfl (fun hg => (by have hg0 := hg; (try simp at hg); first | exact op_loadRef evG rfl rfl rfl | exact op_loadPtr evG memT (by rfl) (by rfl) (by rfl))) ?_ | refine JW_i rfl rfl (fun hp hg => (by have hpg := Bool.and_eq_true_iff.2 ⟨hp, hg⟩; have hg0 := hg; (try simp at hg); first | exact op_loadRef evG rfl rfl rfl | exact op_loadPtr evG memT (by rfl) (by rfl) (by rfl))) ?_)
    (first | refine JW_i0 rfl rfl (fun hg => (by have hg0 := hg; (try simp at hg); first | exact op_moveE (Ev.sub rfl (SubL.iteT (by first | assumption | (simp; done) | (simp; omega) | (simp_all; done)) SubL.rfl')) | exact op_moveE (Ev.rfl' rfl))) ?_ | refine JW_i rfl rfl (fun hp hg => (by have hpg := Bool.and_eq_true_iff.2 ⟨hp, hg⟩; have hg0 := hg; (try simp at hg); first | exact op_moveE (Ev.sub rfl (SubL.iteT (by first | assumption | (simp; done) | (simp; omega) | (simp_all; done)) SubL.rfl')) | exact op_moveE (Ev.rfl' rfl))) ?_)
    (first | refine JW_i0 rfl rfl (fun hg => (by have hg0 := hg; (try simp at hg); first | exact op_moveE (Ev.sub rfl (SubL.iteT (by first | assumption | (simp; done) | (simp; omega) | (simp_all; done)) SubL.rfl')) | exact op_moveE (Ev.rfl' rfl))) ?_ | refine JW_i rfl rfl (fun hp hg => (by have hpg := Bool.and_eq_true_iff.2 ⟨hp, hg⟩; have hg0 := hg; (try simp at hg); first | exact op_moveE (Ev.sub rfl (SubL.iteT (by first | assumption | (simp; done) | (simp; omega) | (simp_all; done)) SubL.rfl')) | exact op_moveE (Ev.rfl' rfl))) ?_)
    (first | refine JW_i0 rfl rfl (fun hg => (by have hg0 := hg; (try simp at hg); first | exact op_index (j := _) evG evG rfl rfl (by first | rfl | omega) hx | exact op_index (j := _) evG evG rfl rfl (by first | rfl | omega) hy | exact op_index (j := _) evG evG rfl rfl (by first | rfl | omega) (by assumption))) ?_ | refine JW_i rfl rfl (fun hp hg => (by have hpg := Bool.and_eq_true_iff.2 ⟨hp, hg⟩; have hg0 := hg; (try simp at hg); first | exact op_index (j := _) evG evG rfl rfl (by first | rfl | omega) hx | exact op_index (j := _) evG evG rfl rfl (by first | rfl | omega) hy | exact op_index (j := _) evG evG rfl rfl (by first | rfl | omega) (by assumption))) ?_)
    (first | refine JW_i0 rfl rfl (fun hg => (by have hg0 := hg; (try simp at hg); first | exact op_fieldPtr (k := 1) evG rfl rfl rfl rfl | exact op_fieldRefN (k := 1) evG rfl rfl rfl rfl nrmT)) ?_ | refine JW_i rfl rfl (fun hp hg => (by have hpg := Bool.and_eq_true_iff.2 ⟨hp, hg⟩; have hg0 := hg; (try simp at hg); first | exact op_fieldPtr (k := 1) evG rfl rfl rfl rfl | exact op_fieldRefN (k := 1) evG rfl rfl rfl rfl nrmT)) ?_)
    (first | refine JW_i0 rfl rfl (fun hg => (by have hg0 := hg; (try simp at hg); first | exact op_loadRef evG rfl rfl rfl | exact op_loadPtr evG memT (by rfl) (by rfl) (by rfl))) ?_ | refine JW_i rfl rfl (fun hp hg => (by have hpg := Bool.and_eq_true_iff.2 ⟨hp, hg⟩; have hg0 := hg; (try simp at hg); first | exact op_loadRef evG rfl rfl rfl | exact op_loadPtr evG memT (by rfl) (by rfl) (by rfl))) ?_)
    (first | refine JW_i0 rfl rfl (fun hg => (by have hg0 := hg; (try simp at hg); exact op_neq evG evG)) ?_ | refine JW_i rfl rfl (fun hp hg => (by have hpg := Bool.and_eq_true_iff.2 ⟨hp, hg⟩; have hg0 := hg; (try simp at hg); exact op_neq evG evG)) ?_)
    refine JW_1 (op_or (Ev.rfl' rfl) rfl (fun h => by first | exact SubL.rfl' | exact SubL.iteT (by first | (rw [h]; rfl) | (simp_all; done)) SubL.rfl')) ?_
    refine JW_1 (op_move rfl) ?_
    (first | refine JW_i0 rfl rfl (fun hg => (by have hg0 := hg; (try simp at hg); first | exact op_moveE (Ev.sub rfl (SubL.iteT (by first | assumption | (simp; done) | (simp; omega) | (simp_all; done)) SubL.rfl')) | exact op_moveE (Ev.rfl' rfl))) ?_ | refine JW_i rfl rfl (fun hp hg => (by have hpg := Bool.and_eq_true_iff.2 ⟨hp, hg⟩; have hg0 := hg; (try simp at hg); first | exact op_moveE (Ev.sub rfl (SubL.iteT (by first | assumption | (simp; done) | (simp; omega) | (simp_all; done)) SubL.rfl')) | exact op_moveE (Ev.rfl' rfl))) ?_)
    (first | refine JW_i0 rfl rfl (fun hg => (by have hg0 := hg; (try simp at hg); first | exact op_moveE (Ev.sub rfl (SubL.iteT (by first | assumption | (simp; done) | (simp; omega) | (simp_all; done)) SubL.rfl')) | exact op_moveE (Ev.rfl' rfl))) ?_ | refine JW_i rfl rfl (fun hp hg => (by have hpg := Bool.and_eq_true_iff.2 ⟨hp, hg⟩; have hg0 := hg; (try simp at hg); first | exact op_moveE (Ev.sub rfl (SubL.iteT (by first | assumption | (simp; done) | (simp; omega) | (simp_all; done)) SubL.rfl')) | exact op_moveE (Ev.rfl' rfl))) ?_)
    (first | refine JW_i0 rfl rfl (fun hg => (by have hg0 := hg; (try simp at hg); first | exact op_index (j := _) evG evG rfl rfl (by first | rfl | omega) hx | exact op_index (j := _) evG evG rfl rfl (by first | rfl | omega) hy | exact op_index (j := _) evG evG rfl rfl (by first | rfl | omega) (by assumption))) ?_ | refine JW_i rfl rfl (fun hp hg => (by have hpg := Bool.and_eq_true_iff.2 ⟨hp, hg⟩; have hg0 := hg; (try simp at hg); first | exact op_index (j := _) evG evG rfl rfl (by first | rfl | omega) hx | exact op_index (j := _) evG evG rfl rfl (by first | rfl | omega) hy | exact op_index (j := _) evG evG rfl rfl (by first | rfl | omega) (by assumption))) ?_)
    (first | refine JW_i0 rfl rfl (fun hg => (by have hg0 := hg; (try simp at hg); first | exact op_fieldPtr (k := 2) evG rfl rfl rfl rfl | exact op_fieldRefN (k := 2) evG rfl rfl rfl rfl nrmT)) ?_ | refine JW_i rfl rfl (fun hp hg => (by have hpg := Bool.and_eq_true_iff.2 ⟨hp, hg⟩; have hg0 := hg; (try simp at hg); first | exact op_fieldPtr (k := 2) evG rfl rfl rfl rfl | exact op_fieldRefN (k := 2) evG rfl rfl rfl rfl nrmT)) ?_)
    (first | refine JW_i0 rfl rfl (fun hg => (by have hg0 := hg; (try simp at hg); first | exact op_loadRefsN (n := 7) evG rfl rfl rfl (by rfl) nrmT | exact op_loadPtrsN (n := 7) evG memT (by rfl) (by rfl) (by rfl) (by rfl) nrmT)) ?_ | refine JW_i rfl rfl (fun hp hg => (by have hpg := Bool.and_eq_true_iff.2 ⟨hp, hg⟩; have hg0 := hg; (try simp at hg); first | exact op_loadRefsN (n := 7) evG rfl rfl rfl (by rfl) nrmT | exact op_loadPtrsN (n := 7) evG memT (by rfl) (by rfl) (by rfl) (by rfl) nrmT)) ?_)
    (first | refine JW_i0 rfl rfl (fun hg => (by have hg0 := hg; (try simp at hg); first | exact op_moveE (Ev.sub rfl (SubL.iteT (by first | assumption | (simp; done) | (simp; omega) | (simp_all; done)) SubL.rfl')) | exact op_moveE (Ev.rfl' rfl))) ?_ | refine JW_i rfl rfl (fun hp hg => (by have hpg := Bool.and_eq_true_iff.2 ⟨hp, hg⟩; have hg0 := hg; (try simp at hg); first | exact op_moveE (Ev.sub rfl (SubL.iteT (by first | assumption | (simp; done) | (simp; omega) | (simp_all; done)) SubL.rfl')) | exact op_moveE (Ev.rfl' rfl))) ?_)
    (first | refine JW_i0 rfl rfl (fun hg => (by have hg0 := hg; (try simp at hg); first | exact op_moveE (Ev.sub rfl (SubL.iteT (by first | assumption | (simp; done) | (simp; omega) | (simp_all; done)) SubL.rfl')) | exact op_moveE (Ev.rfl' rfl))) ?_ | refine JW_i rfl rfl (fun hp hg => (by have hpg := Bool.and_eq_true_iff.2 ⟨hp, hg⟩; have hg0 := hg; (try simp at hg); first | exact op_moveE (Ev.sub rfl (SubL.iteT (by first | assumption | (simp; done) | (simp; omega) | (simp_all; done)) SubL.rfl')) | exact op_moveE (Ev.rfl' rfl))) ?_)
    (first | refine JW_i0 rfl rfl (fun hg => (by have hg0 := hg; (try simp at hg); first | exact op_index (j := _) evG evG rfl rfl (by first | rfl | omega) hx | exact op_index (j := _) evG evG rfl rfl (by first | rfl | omega) hy | exact op_index (j := _) evG evG rfl rfl (by first | rfl | omega) (by assumption))) ?_ | refine JW_i rfl rfl (fun hp hg => (by have hpg := Bool.and_eq_true_iff.2 ⟨hp, hg⟩; have hg0 := hg; (try simp at hg); first | exact op_index (j := _) evG evG rfl rfl (by first | rfl | omega) hx | exact op_index (j := _) evG evG rfl rfl (by first | rfl | omega) hy | exact op_index (j := _) evG evG rfl rfl (by first | rfl | omega) (by assumption))) ?_)
    (first | refine JW_i0 rfl rfl (fun hg => (by have hg0 := hg; (try simp at hg); first | exact op_fieldPtr (k := 2) evG rfl rfl rfl rfl | exact op_fieldRefN (k := 2) evG rfl rfl rfl rfl nrmT)) ?_ | refine JW_i rfl rfl (fun hp hg => (by have hpg := Bool.and_eq_true_iff.2 ⟨hp, hg⟩; have hg0 := hg; (try simp at hg); first | exact op_fieldPtr (k := 2) evG rfl rfl rfl rfl | exact op_fieldRefN (k := 2) evG rfl rfl rfl rfl nrmT)) ?_)
    (first | refine JW_i0 rfl rfl (fun hg => (by have hg0 := hg; (try simp at hg); first | exact op_loadRefsN (n := 7) evG rfl rfl rfl (by rfl) nrmT | exact op_loadPtrsN (n := 7) evG memT (by rfl) (by rfl) (by rfl) (by rfl) nrmT)) ?_ | refine JW_i rfl rfl (fun hp hg => (by have hpg := Bool.and_eq_true_iff.2 ⟨hp, hg⟩; have hg0 := hg; (try simp at hg); first | exact op_loadRefsN (n := 7) evG rfl rfl rfl (by rfl) nrmT | exact op_loadPtrsN (n := 7) evG memT (by rfl) (by rfl) (by rfl) (by rfl) nrmT)) ?_)
    (first | refine JW_i0 rfl rfl (fun hg => (by have hg0 := hg; (try simp at hg); exact op_cmpA (vs := dataV mx) (ws := dataV my) evG evG (eqD_guard _ _ _ mx my) (eqD_neq mx my))) ?_ | refine JW_i rfl rfl (fun hp hg => (by have hpg := Bool.and_eq_true_iff.2 ⟨hp, hg⟩; have hg0 := hg; (try simp at hg); exact op_cmpA (vs := dataV mx) (ws := dataV my) evG evG (eqD_guard _ _ _ mx my) (eqD_neq mx my))) ?_)
    refine JW_1 (op_or (Ev.rfl' rfl) rfl (fun h => by first | exact SubL.rfl' | exact SubL.iteT (by first | (rw [h]; rfl) | (simp_all; done)) SubL.rfl')) ?_
    refine ⟨rfl, ?_⟩
    refine JD_end ?_
    refine JQ_then ?_
    refine JC_cond (Ev.rfl' rfl) (fun h6 => ?_) (fun h6 => ?_)
    · have e : xs ≠ ys := by
        rintro rfl
        rw [hx] at hy
        have hm : mx = my := by simpa using hy
        subst hm
        rw [← Bool.or_assoc] at hsp
        rw [hsp] at h6
        simp at h6
      refine JC_seq ?_
      refine JC_region ?_
      refine JL_1 rfl (op_assign rfl) ?_
      refine JL_nil ?_
      refine JQ_then (JC_ret (JQ_block_ret (JQ_then_ret (JQ_then_ret (JQ_block_ret (JQ_then_ret ?_))))))
      refine JQ_ret1 Try.results33 rfl () (SubL.eq ?_) (List.nil_sublist _)
      rw [decide_eq_false e]
    have e : mx = my := by
      rw [← Bool.or_assoc] at hsp
      rw [hsp] at h6
      simpa using h6
    clear h6
    refine JC_skip (JQ_block (JQ_then ?_))
    refine JC_region ?_
    refine JL_1 rfl (op_move rfl) ?_
    refine JL_1 rfl (op_add (Ev.rfl' rfl) (Ev.rfl' rfl) wrapT) ?_
    refine JL_1 rfl (op_assign rfl) ?_
    refine JL_nil ?_
    exact JQ_roundP (k + 1) ⟨by omega, (take_eq_succ hx hy hs).2 e⟩ (by omega) esubT lessT
  have e : xs = ys := by
    have h' : ¬ (k : Int) < xs.length := of_decide_eq_false h4
    rw [List.take_of_length_le (by omega), List.take_of_length_le (by omega)] at hs
    exact hs
  clear h4
  refine JC_exit (JQ_then_exit (JQ_then_exit (JQ_hit (JQ_then (JC_seq ?_)))))
  refine JC_region ?_
  refine JL_1 rfl (op_assign rfl) ?_
  refine JL_nil ?_
  refine JQ_then (JC_ret ?_)
  refine JQ_ret1 Try.results33 rfl () (SubL.eq ?_) (List.nil_sublist _)
  rw [decide_eq_true e]
set_option maxHeartbeats 1000000 in
-- bodegahand.SameInts: function 55
theorem SameInts_ok (xs ys : List Int) : FnP Try.prog 55 [IsSl tI64 xs, IsSl tI64 ys] (Is (.bool (decide (xs = ys)))) := by
  refine FnP.enter Try.func55 Try.ntmps55 rfl rfl ?_
  intro c hX
  refine JC_len (t := 0) rfl (fun hlen => ?_)
  refine JC_seq ?_
  refine JC_region ?_
  refine JL_1 rfl (op_assign rfl) ?_
  refine JL_nil ?_
  refine JQ_then (JC_seq (JC_seq ?_))
  refine JC_region ?_
  refine JL_1 rfl (op_move rfl) ?_
  refine JL_1 rfl (by first | exact op_len (Ev.rfl' rfl) rfl | exact op_lenLit (Ev.rfl' rfl) rfl) ?_
  refine JL_1 rfl (op_move rfl) ?_
  refine JL_1 rfl (by first | exact op_len (Ev.rfl' rfl) rfl | exact op_lenLit (Ev.rfl' rfl) rfl) ?_
  refine JL_1 rfl (op_neq (Ev.rfl' rfl) (Ev.rfl' rfl)) ?_
  refine JL_nil ?_
  refine JQ_then ?_
  refine JC_cond (Ev.rfl' rfl) (fun h1 => ?_) (fun h1 => ?_)
  · have e : xs ≠ ys := by rintro rfl; simp at h1
    refine JC_seq ?_
    refine JC_region ?_
    refine JL_1 rfl (op_assign rfl) ?_
    refine JL_nil ?_
    refine JQ_then (JC_ret (JQ_then_ret ?_))
    refine JQ_ret1 Try.results55 rfl () (SubL.eq ?_) (List.nil_sublist _)
    rw [decide_eq_false e]
  have hl : xs.length = ys.length := by simp at h1; omega
  clear h1
  refine JC_skip (JQ_then (JC_seq (JC_seq ?_)))
  refine JC_region ?_
  refine JL_1 rfl (op_assign rfl) ?_
  refine JL_nil ?_
  refine JQ_then (JC_block ?_)
  refine JC_loopP (fun k : Nat => k ≤ xs.length ∧ xs.take k = ys.take k) (fun k => [(0, IsSl tI64 xs), (1, IsSl tI64 ys), (5, Is (.int .i64 (k : Nat)))]) (fun _ => []) (fun k => xs.length - k) 0 ⟨Nat.zero_le _, rfl⟩ esubT lessT ?_
  rintro k ⟨hk, hs⟩
  refine JC_seq (JC_seq ?_)
  refine JC_region ?_
  refine JL_1 rfl (op_move rfl) ?_
  refine JL_1 rfl (op_move rfl) ?_
  refine JL_1 rfl (by first | exact op_len (Ev.rfl' rfl) rfl | exact op_lenLit (Ev.rfl' rfl) rfl) ?_
  refine JL_1 rfl (op_lss (Ev.rfl' rfl) (Ev.rfl' rfl)) ?_
  refine JL_nil ?_
  refine JQ_then ?_
  refine JC_cond (Ev.rfl' rfl) (fun h4 => ?_) (fun h4 => ?_)
  · have h' : (k : Int) < xs.length := of_decide_eq_true h4
    clear h4
    obtain ⟨mx, hx⟩ : ∃ m, xs[k]? = some m := ⟨xs[k], List.getElem?_eq_getElem (by omega)⟩
    obtain ⟨my, hy⟩ : ∃ m, ys[k]? = some m := ⟨ys[k], List.getElem?_eq_getElem (by omega)⟩
    refine JC_skip (JQ_then (JC_seq (JC_block (JC_seq ?_))))
    refine JC_dr rfl (by kernel_rfl) ?_
    refine JD_stretch 9 (by kernel_rfl) ?_
    refine JW_1 (op_move rfl) ?_
    refine JW_1 (op_move rfl) ?_
    refine JW_1 (by first | exact op_index (j := _) (Ev.rfl' rfl) (Ev.rfl' rfl) rfl rfl (by first | rfl | omega) hx | exact op_index (j := _) (Ev.rfl' rfl) (Ev.rfl' rfl) rfl rfl (by first | rfl | omega) hy | exact op_index (j := _) (Ev.rfl' rfl) (Ev.rfl' rfl) rfl rfl (by first | rfl | omega) (by assumption)) ?_
    refine JW_1 (by first | exact op_loadRef (Ev.rfl' rfl) rfl rfl rfl | exact op_loadPtr (Ev.rfl' rfl) memT (by rfl) (by rfl) (by rfl)) ?_
    refine JW_1 (op_move rfl) ?_
    refine JW_1 (op_move rfl) ?_
    refine JW_1 (by first | exact op_index (j := _) (Ev.rfl' rfl) (Ev.rfl' rfl) rfl rfl (by first | rfl | omega) hx | exact op_index (j := _) (Ev.rfl' rfl) (Ev.rfl' rfl) rfl rfl (by first | rfl | omega) hy | exact op_index (j := _) (Ev.rfl' rfl) (Ev.rfl' rfl) rfl rfl (by first | rfl | omega) (by assumption)) ?_
    refine JW_1 (by first | exact op_loadRef (Ev.rfl' rfl) rfl rfl rfl | exact op_loadPtr (Ev.rfl' rfl) memT (by rfl) (by rfl) (by rfl)) ?_
    refine JW_1 (op_neq (Ev.rfl' rfl) (Ev.rfl' rfl)) ?_
    refine ⟨rfl, ?_⟩
    refine JD_end ?_
    refine JQ_then ?_
    refine JC_cond (Ev.rfl' rfl) (fun h6 => ?_) (fun h6 => ?_)
    · have e : xs ≠ ys := by
        rintro rfl
        rw [hx] at hy
        have hm : mx = my := by simpa using hy
        subst hm
        simp at h6
      refine JC_seq ?_
      refine JC_region ?_
      refine JL_1 rfl (op_assign rfl) ?_
      refine JL_nil ?_
      refine JQ_then (JC_ret (JQ_block_ret (JQ_then_ret (JQ_then_ret (JQ_block_ret (JQ_then_ret ?_))))))
      refine JQ_ret1 Try.results55 rfl () (SubL.eq ?_) (List.nil_sublist _)
      rw [decide_eq_false e]
    have e : mx = my := by simpa [UV_inj] using h6
    clear h6
    refine JC_skip (JQ_block (JQ_then ?_))
    refine JC_region ?_
    refine JL_1 rfl (op_move rfl) ?_
    refine JL_1 rfl (op_add (Ev.rfl' rfl) (Ev.rfl' rfl) wrapT) ?_
    refine JL_1 rfl (op_assign rfl) ?_
    refine JL_nil ?_
    exact JQ_roundP (k + 1) ⟨by omega, (take_eq_succ hx hy hs).2 e⟩ (by omega) esubT lessT
  have e : xs = ys := by
    have h' : ¬ (k : Int) < xs.length := of_decide_eq_false h4
    rw [List.take_of_length_le (by omega), List.take_of_length_le (by omega)] at hs
    exact hs
  clear h4
  refine JC_exit (JQ_then_exit (JQ_then_exit (JQ_hit (JQ_then (JC_seq ?_)))))
  refine JC_region ?_
  refine JL_1 rfl (op_assign rfl) ?_
  refine JL_nil ?_
  refine JQ_then (JC_ret ?_)
  refine JQ_ret1 Try.results55 rfl () (SubL.eq ?_) (List.nil_sublist _)
  rw [decide_eq_true e]
end Go.Proofs.Ytpfojangcgffkaa

/- Rule: a part of an array that stays, as a slice. Own work. -/
namespace Go.Proofs.Ytpfojangcgffkaa
open Go.RowKit
set_option linter.unusedVariables false
set_option linter.unusedSimpArgs false
section
variable {P : Program} {c : Ctx} {A : Nat → Option VP} {L : List Item} {d : Option Tmp} {ty : TypeId} {pos : String} {af : Array Edge} {g : Option (Nat × Bool)}
variable {α : Type} {T : Ty α}
theorem op_sliceRefB (xs : List α) {x y z : Operand} {t e : TypeId} {n l u : Nat} {k1 k2 : IntKind} {i1 i2 : Int} {As : List VP} (hx : Ev A L x (IsRef As)) (hu : P.underlying t = some (.array n e)) (hs : (P.info? e).map (·.size) = some T.size) (hy : Ev A L y (Is (.int k1 i1))) (hz : Ev A L z (Is (.int k2 i2)))
    (e1 : i1 = l) (e2 : i2 = u) (h1 : l ≤ u) (h2 : u ≤ xs.length) (hn : xs.length = n) (hm : Nat.ble n maxLen = true) (h : SubLs L (As.take (n * T.size)) (xs.flatMap T.cells)) :
    OpP P c ⟨d, .slice t x (some y) (some z) none, ty, pos, af, g⟩ A L (IsSl T ((xs.take u).drop l)) := by
  intro φ a w K Q hh he hk
  obtain ⟨b, o, f1, f2⟩ : (IsRef As).ok φ (a.eval x) := he x (by simp [Op.operands]) _ hx
  have g1 : a.eval y = .int k1 i1 := he y (by simp [Op.operands]) _ hy
  have g2 : a.eval z = .int k2 i2 := he z (by simp [Op.operands]) _ hz
  have hat : SlAt T φ (some ⟨b, o, none⟩) n n xs := by
    refine ⟨hn.symm, Nat.le_refl _, Nat.le_of_ble_eq_true hm, .inr ⟨b, o, rfl, fun k z hj j B hB => ?_⟩⟩
    obtain ⟨D, h3, h4⟩ := subLs_get (Bs := []) h (flat_idx hj hB)
    have h5 : As[k * T.size + j]? = some D := by
      rw [List.getElem?_take] at h3
      split at h3
      · exact h3
      · cases h3
    obtain ⟨v, h6, h7, h8⟩ := f2 _ D h5
    exact ⟨v, by rw [Nat.add_assoc]; exact h6, h4 φ v hh.mem.facts h7, h8⟩
  have hrun : (execOp a.eval ⟨d, .slice t x (some y) (some z) none, ty, pos, af, g⟩).run P w = .ok (.value (.slice (if n = l then some ⟨b, o, none⟩ else (some ⟨b, o, none⟩ : Option Addr).map (·.add (l * T.size))) (u - l) (n - l))) w := by
    simp only [execOp, f1]
    refine run_val ?_
    simp only [Instr.sliceAt, Sem.run_bind, run_underlying hu, Result.andThen_ok, Instr.sureAddr, Sem.run_pure, Option.map_none, Option.map_some, Instr.sliceBounds, g1, g2, run_bound (P := P) (y := k2) (k := k2) e2 (show u ≤ n by omega), run_bound (P := P) (y := k1) (k := k1) e1 h1, run_sizeOf hs]
    by_cases hc : n = l <;> simp [hc]
  unfold Oper.wp
  rw [hrun]
  exact hk φ _ w hh.idle ⟨_, _, _, rfl, hat.cut h1 (by omega)⟩
end
end Go.Proofs.Ytpfojangcgffkaa

/- Contracts: segments, their lines; header pages read and written, by the program and by the reference. Own work. -/
namespace Go.Proofs.Ytpfojangcgffkaa
open Go.RowKit
set_option linter.unusedVariables false
set_option linter.unusedSimpArgs false
set_option maxRecDepth 100000
def sizeB (l : Int) : Bool := decide (l ≥ 104) && decide (l ≤ 256)
def clientB (l : Int) : Bool := decide (l ≥ 0) && decide (l < 6)
def ownB (l : Int) : Bool := decide (l ≥ 98) && decide (l < 104)
def countV (l : Int) : Int := if 104 ≤ l ∧ l ≤ 256 then (l - 104) / 16 else 0
def lineV (s : Int) : Int := if 0 ≤ s ∧ s ≤ 8 then 104 + 16 * s else -1
def hdrB (l : Int) : Bool := decide (104 ≤ l ∧ l < 248 ∧ (l - 104) % 16 = 0)
def locV (lines line : Int) : Int × Int × Bool := if 104 ≤ line ∧ line < 104 + 16 * countV lines ∧ (line - 104) % 16 ≠ 0 then ((line - 104) / 16, (line - 104) % 16, true) else (0, 0, false)
theorem count_rng (l : Int) : 0 ≤ countV l ∧ countV l ≤ 9 := by unfold countV; split <;> omega
theorem line_rng (s : Int) : -1 ≤ lineV s ∧ lineV s ≤ 232 := by unfold lineV; split <;> omega
theorem size_iff {l : Int} : sizeB l = true ↔ 104 ≤ l ∧ l ≤ 256 := by unfold sizeB; simp
theorem size_not {l : Int} : sizeB l = false ↔ ¬ (104 ≤ l ∧ l ≤ 256) := by rw [← size_iff]; simp
-- segment.isSize: function 75
theorem isSize_ok (l : Int) : FnP Try.prog 75 [Is (.int .i64 l)] (Is (.bool (sizeB l))) := by
  refine FnP.enter Try.func75 Try.ntmps75 rfl rfl ?_
  intro c hX
  refine JC_seq ?_
  refine JC_region ?_
  refine JL_1 rfl (op_assign rfl) ?_
  refine JL_nil ?_
  refine JQ_then (JC_seq ?_)
  refine JC_region ?_
  refine JL_1 rfl (op_move rfl) ?_
  refine JL_1 rfl (op_geq (Ev.rfl' rfl) (Ev.rfl' rfl)) ?_
  refine JL_1 rfl (op_move rfl) ?_
  (first | refine JL_i0 rfl rfl rfl (fun hg => (by have hg0 := hg; (try simp at hg); first | exact op_moveE (Ev.sub rfl (SubL.iteT (by first | assumption | (simp; done) | (simp; omega) | (simp_all; done)) SubL.rfl')) | exact op_moveE (Ev.rfl' rfl))) ?_ | refine JL_i rfl rfl rfl (fun hp hg => (by have hpg := Bool.and_eq_true_iff.2 ⟨hp, hg⟩; have hg0 := hg; (try simp at hg); first | exact op_moveE (Ev.sub rfl (SubL.iteT (by first | assumption | (simp; done) | (simp; omega) | (simp_all; done)) SubL.rfl')) | exact op_moveE (Ev.rfl' rfl))) ?_)
  (first | refine JL_i0 rfl rfl rfl (fun hg => (by have hg0 := hg; (try simp at hg); exact op_leq evG evG)) ?_ | refine JL_i rfl rfl rfl (fun hp hg => (by have hpg := Bool.and_eq_true_iff.2 ⟨hp, hg⟩; have hg0 := hg; (try simp at hg); exact op_leq evG evG)) ?_)
  refine JL_1 rfl (op_and (Ev.rfl' rfl) rfl (fun h => by first | exact SubL.rfl' | exact SubL.iteT (by first | (rw [h]; rfl) | (simp_all; done)) SubL.rfl')) ?_
  refine JL_1 rfl (op_assign rfl) ?_
  refine JL_nil ?_
  refine JQ_then (JC_ret ?_)
  refine JQ_ret1 Try.results75 rfl () (SubL.eq ?_) (List.nil_sublist _)
  rfl
-- segment.isClient: function 78
theorem isClient_ok (l : Int) : FnP Try.prog 78 [Is (.int .i64 l)] (Is (.bool (clientB l))) := by
  refine FnP.enter Try.func78 Try.ntmps78 rfl rfl ?_
  intro c hX
  refine JC_seq ?_
  refine JC_region ?_
  refine JL_1 rfl (op_assign rfl) ?_
  refine JL_nil ?_
  refine JQ_then (JC_seq ?_)
  refine JC_region ?_
  refine JL_1 rfl (op_move rfl) ?_
  refine JL_1 rfl (op_geq (Ev.rfl' rfl) (Ev.rfl' rfl)) ?_
  refine JL_1 rfl (op_move rfl) ?_
  (first | refine JL_i0 rfl rfl rfl (fun hg => (by have hg0 := hg; (try simp at hg); first | exact op_moveE (Ev.sub rfl (SubL.iteT (by first | assumption | (simp; done) | (simp; omega) | (simp_all; done)) SubL.rfl')) | exact op_moveE (Ev.rfl' rfl))) ?_ | refine JL_i rfl rfl rfl (fun hp hg => (by have hpg := Bool.and_eq_true_iff.2 ⟨hp, hg⟩; have hg0 := hg; (try simp at hg); first | exact op_moveE (Ev.sub rfl (SubL.iteT (by first | assumption | (simp; done) | (simp; omega) | (simp_all; done)) SubL.rfl')) | exact op_moveE (Ev.rfl' rfl))) ?_)
  (first | refine JL_i0 rfl rfl rfl (fun hg => (by have hg0 := hg; (try simp at hg); exact op_lss evG evG)) ?_ | refine JL_i rfl rfl rfl (fun hp hg => (by have hpg := Bool.and_eq_true_iff.2 ⟨hp, hg⟩; have hg0 := hg; (try simp at hg); exact op_lss evG evG)) ?_)
  refine JL_1 rfl (op_and (Ev.rfl' rfl) rfl (fun h => by first | exact SubL.rfl' | exact SubL.iteT (by first | (rw [h]; rfl) | (simp_all; done)) SubL.rfl')) ?_
  refine JL_1 rfl (op_assign rfl) ?_
  refine JL_nil ?_
  refine JQ_then (JC_ret ?_)
  refine JQ_ret1 Try.results78 rfl () (SubL.eq ?_) (List.nil_sublist _)
  rfl
-- segment.isNodeLine: function 66
theorem isNodeLine_ok (l : Int) : FnP Try.prog 66 [Is (.int .i64 l)] (Is (.bool (ownB l))) := by
  refine FnP.enter Try.func66 Try.ntmps66 rfl rfl ?_
  intro c hX
  refine JC_seq ?_
  refine JC_region ?_
  refine JL_1 rfl (op_assign rfl) ?_
  refine JL_nil ?_
  refine JQ_then (JC_seq ?_)
  refine JC_region ?_
  refine JL_1 rfl (op_move rfl) ?_
  refine JL_1 rfl (op_geq (Ev.rfl' rfl) (Ev.rfl' rfl)) ?_
  refine JL_1 rfl (op_move rfl) ?_
  (first | refine JL_i0 rfl rfl rfl (fun hg => (by have hg0 := hg; (try simp at hg); first | exact op_moveE (Ev.sub rfl (SubL.iteT (by first | assumption | (simp; done) | (simp; omega) | (simp_all; done)) SubL.rfl')) | exact op_moveE (Ev.rfl' rfl))) ?_ | refine JL_i rfl rfl rfl (fun hp hg => (by have hpg := Bool.and_eq_true_iff.2 ⟨hp, hg⟩; have hg0 := hg; (try simp at hg); first | exact op_moveE (Ev.sub rfl (SubL.iteT (by first | assumption | (simp; done) | (simp; omega) | (simp_all; done)) SubL.rfl')) | exact op_moveE (Ev.rfl' rfl))) ?_)
  (first | refine JL_i0 rfl rfl rfl (fun hg => (by have hg0 := hg; (try simp at hg); exact op_lss evG evG)) ?_ | refine JL_i rfl rfl rfl (fun hp hg => (by have hpg := Bool.and_eq_true_iff.2 ⟨hp, hg⟩; have hg0 := hg; (try simp at hg); exact op_lss evG evG)) ?_)
  refine JL_1 rfl (op_and (Ev.rfl' rfl) rfl (fun h => by first | exact SubL.rfl' | exact SubL.iteT (by first | (rw [h]; rfl) | (simp_all; done)) SubL.rfl')) ?_
  refine JL_1 rfl (op_assign rfl) ?_
  refine JL_nil ?_
  refine JQ_then (JC_ret ?_)
  refine JQ_ret1 Try.results66 rfl () (SubL.eq ?_) (List.nil_sublist _)
  rfl
-- bodegaref19.isOwn: function 68
theorem isOwn_ok (l : Int) : FnP Try.prog 68 [Is (.int .i64 l)] (Is (.bool (ownB l))) := by
  refine FnP.enter Try.func68 Try.ntmps68 rfl rfl ?_
  intro c hX
  refine JC_seq ?_
  refine JC_region ?_
  refine JL_1 rfl (op_assign rfl) ?_
  refine JL_nil ?_
  refine JQ_then (JC_seq ?_)
  refine JC_region ?_
  refine JL_1 rfl (op_move rfl) ?_
  refine JL_1 rfl (op_geq (Ev.rfl' rfl) (Ev.rfl' rfl)) ?_
  refine JL_1 rfl (op_move rfl) ?_
  (first | refine JL_i0 rfl rfl rfl (fun hg => (by have hg0 := hg; (try simp at hg); first | exact op_moveE (Ev.sub rfl (SubL.iteT (by first | assumption | (simp; done) | (simp; omega) | (simp_all; done)) SubL.rfl')) | exact op_moveE (Ev.rfl' rfl))) ?_ | refine JL_i rfl rfl rfl (fun hp hg => (by have hpg := Bool.and_eq_true_iff.2 ⟨hp, hg⟩; have hg0 := hg; (try simp at hg); first | exact op_moveE (Ev.sub rfl (SubL.iteT (by first | assumption | (simp; done) | (simp; omega) | (simp_all; done)) SubL.rfl')) | exact op_moveE (Ev.rfl' rfl))) ?_)
  (first | refine JL_i0 rfl rfl rfl (fun hg => (by have hg0 := hg; (try simp at hg); exact op_lss evG evG)) ?_ | refine JL_i rfl rfl rfl (fun hp hg => (by have hpg := Bool.and_eq_true_iff.2 ⟨hp, hg⟩; have hg0 := hg; (try simp at hg); exact op_lss evG evG)) ?_)
  refine JL_1 rfl (op_and (Ev.rfl' rfl) rfl (fun h => by first | exact SubL.rfl' | exact SubL.iteT (by first | (rw [h]; rfl) | (simp_all; done)) SubL.rfl')) ?_
  refine JL_1 rfl (op_assign rfl) ?_
  refine JL_nil ?_
  refine JQ_then (JC_ret ?_)
  refine JQ_ret1 Try.results68 rfl () (SubL.eq ?_) (List.nil_sublist _)
  rfl
theorem count_yes {l : Int} (h : 104 ≤ l ∧ l ≤ 256) : countV l = IntKind.i64.wrap ((l - 104).tdiv 16) := by
  unfold countV
  rw [if_pos h, Int.tdiv_eq_ediv_of_nonneg (by omega), wI64 (by omega)]
-- segment.Count: function 29
theorem Count_ok (l : Int) : FnP Try.prog 29 [Is (.int .i64 l)] (Is (.int .i64 (countV l))) := by
  refine FnP.enter Try.func29 Try.ntmps29 rfl rfl ?_
  intro c hX
  refine JC_seq ?_
  refine JC_region ?_
  refine JL_1 rfl (op_assign rfl) ?_
  refine JL_nil ?_
  refine JQ_then (JC_seq (JC_seq ?_))
  refine JC_region ?_
  refine JL_1 rfl (op_move rfl) ?_
  refine JL_1 rfl (op_call Try.call75 (isSize_ok _) ⟨evS, trivial⟩) ?_
  refine JL_1 rfl (op_not (Ev.rfl' rfl)) ?_
  refine JL_nil ?_
  refine JQ_then ?_
  refine JC_cond (Ev.rfl' rfl) (fun h1 => ?_) (fun h1 => ?_)
  · have h : ¬ (104 ≤ l ∧ l ≤ 256) := size_not.1 (by simpa using h1)
    refine JC_seq ?_
    refine JC_region ?_
    refine JL_1 rfl (op_assign rfl) ?_
    refine JL_nil ?_
    refine JQ_then (JC_ret (JQ_then_ret ?_))
    refine JQ_ret1 Try.results29 rfl () (SubL.eq ?_) (List.nil_sublist _)
    unfold countV; rw [if_neg h]
  have h : 104 ≤ l ∧ l ≤ 256 := size_iff.1 (by simpa using h1)
  refine JC_skip (JQ_then (JC_seq ?_))
  refine JC_region ?_
  refine JL_1 rfl (op_move rfl) ?_
  refine JL_1 rfl (op_sub (Ev.rfl' rfl) (Ev.rfl' rfl) wrapT) ?_
  refine JL_1 rfl (op_quo (Ev.rfl' rfl) (Ev.rfl' rfl) (by omega) rfl) ?_
  refine JL_1 rfl (op_assign rfl) ?_
  refine JL_nil ?_
  refine JQ_then (JC_ret ?_)
  refine JQ_ret1 Try.results29 rfl () (SubL.eq ?_) (List.nil_sublist _)
  rw [count_yes h]
-- bodegaref19.Count: function 30
theorem CountR_ok (l : Int) : FnP Try.prog 30 [Is (.int .i64 l)] (Is (.int .i64 (countV l))) := by
  refine FnP.enter Try.func30 Try.ntmps30 rfl rfl ?_
  intro c hX
  refine JC_seq ?_
  refine JC_region ?_
  refine JL_1 rfl (op_assign rfl) ?_
  refine JL_nil ?_
  refine JQ_then (JC_seq (JC_seq ?_))
  refine JC_region ?_
  refine JL_1 rfl (op_move rfl) ?_
  refine JL_1 rfl (op_lss (Ev.rfl' rfl) (Ev.rfl' rfl)) ?_
  refine JL_1 rfl (op_move rfl) ?_
  (first | refine JL_i0 rfl rfl rfl (fun hg => (by have hg0 := hg; (try simp at hg); first | exact op_moveE (Ev.sub rfl (SubL.iteT (by first | assumption | (simp; done) | (simp; omega) | (simp_all; done)) SubL.rfl')) | exact op_moveE (Ev.rfl' rfl))) ?_ | refine JL_i rfl rfl rfl (fun hp hg => (by have hpg := Bool.and_eq_true_iff.2 ⟨hp, hg⟩; have hg0 := hg; (try simp at hg); first | exact op_moveE (Ev.sub rfl (SubL.iteT (by first | assumption | (simp; done) | (simp; omega) | (simp_all; done)) SubL.rfl')) | exact op_moveE (Ev.rfl' rfl))) ?_)
  (first | refine JL_i0 rfl rfl rfl (fun hg => (by have hg0 := hg; (try simp at hg); exact op_gtr evG evG)) ?_ | refine JL_i rfl rfl rfl (fun hp hg => (by have hpg := Bool.and_eq_true_iff.2 ⟨hp, hg⟩; have hg0 := hg; (try simp at hg); exact op_gtr evG evG)) ?_)
  refine JL_1 rfl (op_or (Ev.rfl' rfl) rfl (fun h => by first | exact SubL.rfl' | exact SubL.iteT (by first | (rw [h]; rfl) | (simp_all; done)) SubL.rfl')) ?_
  refine JL_nil ?_
  refine JQ_then ?_
  refine JC_cond (Ev.rfl' rfl) (fun h1 => ?_) (fun h1 => ?_)
  · have h : ¬ (104 ≤ l ∧ l ≤ 256) := by simp at h1; omega
    refine JC_seq ?_
    refine JC_region ?_
    refine JL_1 rfl (op_assign rfl) ?_
    refine JL_nil ?_
    refine JQ_then (JC_ret (JQ_then_ret ?_))
    refine JQ_ret1 Try.results30 rfl () (SubL.eq ?_) (List.nil_sublist _)
    unfold countV; rw [if_neg h]
  have h : 104 ≤ l ∧ l ≤ 256 := by simp at h1; omega
  refine JC_skip (JQ_then (JC_seq ?_))
  refine JC_region ?_
  refine JL_1 rfl (op_move rfl) ?_
  refine JL_1 rfl (op_sub (Ev.rfl' rfl) (Ev.rfl' rfl) wrapT) ?_
  refine JL_1 rfl (op_quo (Ev.rfl' rfl) (Ev.rfl' rfl) (by omega) rfl) ?_
  refine JL_1 rfl (op_assign rfl) ?_
  refine JL_nil ?_
  refine JQ_then (JC_ret ?_)
  refine JQ_ret1 Try.results30 rfl () (SubL.eq ?_) (List.nil_sublist _)
  rw [count_yes h]
-- segment.HeaderLine: function 31
theorem HeaderLine_ok (s : Int) : FnP Try.prog 31 [Is (.int .i64 s)] (Is (.int .i64 (lineV s))) := by
  refine FnP.enter Try.func31 Try.ntmps31 rfl rfl ?_
  intro c hX
  refine JC_seq ?_
  refine JC_region ?_
  refine JL_1 rfl (op_assign rfl) ?_
  refine JL_nil ?_
  refine JQ_then (JC_seq (JC_seq ?_))
  refine JC_region ?_
  refine JL_1 rfl (op_move rfl) ?_
  refine JL_1 rfl (op_lss (Ev.rfl' rfl) (Ev.rfl' rfl)) ?_
  refine JL_1 rfl (op_move rfl) ?_
  (first | refine JL_i0 rfl rfl rfl (fun hg => (by have hg0 := hg; (try simp at hg); first | exact op_moveE (Ev.sub rfl (SubL.iteT (by first | assumption | (simp; done) | (simp; omega) | (simp_all; done)) SubL.rfl')) | exact op_moveE (Ev.rfl' rfl))) ?_ | refine JL_i rfl rfl rfl (fun hp hg => (by have hpg := Bool.and_eq_true_iff.2 ⟨hp, hg⟩; have hg0 := hg; (try simp at hg); first | exact op_moveE (Ev.sub rfl (SubL.iteT (by first | assumption | (simp; done) | (simp; omega) | (simp_all; done)) SubL.rfl')) | exact op_moveE (Ev.rfl' rfl))) ?_)
  (first | refine JL_i0 rfl rfl rfl (fun hg => (by have hg0 := hg; (try simp at hg); exact op_geq evG evG)) ?_ | refine JL_i rfl rfl rfl (fun hp hg => (by have hpg := Bool.and_eq_true_iff.2 ⟨hp, hg⟩; have hg0 := hg; (try simp at hg); exact op_geq evG evG)) ?_)
  refine JL_1 rfl (op_or (Ev.rfl' rfl) rfl (fun h => by first | exact SubL.rfl' | exact SubL.iteT (by first | (rw [h]; rfl) | (simp_all; done)) SubL.rfl')) ?_
  refine JL_nil ?_
  refine JQ_then ?_
  refine JC_cond (Ev.rfl' rfl) (fun h1 => ?_) (fun h1 => ?_)
  · have h : ¬ (0 ≤ s ∧ s ≤ 8) := by simp at h1; omega
    refine JC_seq ?_
    refine JC_region ?_
    refine JL_1 rfl (op_assign rfl) ?_
    refine JL_nil ?_
    refine JQ_then (JC_ret (JQ_then_ret ?_))
    refine JQ_ret1 Try.results31 rfl () (SubL.eq ?_) (List.nil_sublist _)
    unfold lineV; rw [if_neg h]
  have h : 0 ≤ s ∧ s ≤ 8 := by simp at h1; omega
  refine JC_skip (JQ_then (JC_seq ?_))
  refine JC_region ?_
  refine JL_1 rfl (op_move rfl) ?_
  refine JL_1 rfl (op_mul (Ev.rfl' rfl) (Ev.rfl' rfl) wrapT) ?_
  refine JL_1 rfl (op_add (Ev.rfl' rfl) (Ev.rfl' rfl) wrapT) ?_
  refine JL_1 rfl (op_assign rfl) ?_
  refine JL_nil ?_
  refine JQ_then (JC_ret ?_)
  refine JQ_ret1 Try.results31 rfl () (SubL.eq ?_) (List.nil_sublist _)
  unfold lineV; rw [if_pos h, Int.mul_comm]
-- bodegaref19.HeaderLine: function 32
theorem HeaderLineR_ok (s : Int) : FnP Try.prog 32 [Is (.int .i64 s)] (Is (.int .i64 (lineV s))) := by
  refine FnP.enter Try.func32 Try.ntmps32 rfl rfl ?_
  intro c hX
  refine JC_seq ?_
  refine JC_region ?_
  refine JL_1 rfl (op_assign rfl) ?_
  refine JL_nil ?_
  refine JQ_then (JC_seq (JC_seq ?_))
  refine JC_region ?_
  refine JL_1 rfl (op_move rfl) ?_
  refine JL_1 rfl (op_lss (Ev.rfl' rfl) (Ev.rfl' rfl)) ?_
  refine JL_1 rfl (op_move rfl) ?_
  (first | refine JL_i0 rfl rfl rfl (fun hg => (by have hg0 := hg; (try simp at hg); first | exact op_moveE (Ev.sub rfl (SubL.iteT (by first | assumption | (simp; done) | (simp; omega) | (simp_all; done)) SubL.rfl')) | exact op_moveE (Ev.rfl' rfl))) ?_ | refine JL_i rfl rfl rfl (fun hp hg => (by have hpg := Bool.and_eq_true_iff.2 ⟨hp, hg⟩; have hg0 := hg; (try simp at hg); first | exact op_moveE (Ev.sub rfl (SubL.iteT (by first | assumption | (simp; done) | (simp; omega) | (simp_all; done)) SubL.rfl')) | exact op_moveE (Ev.rfl' rfl))) ?_)
  (first | refine JL_i0 rfl rfl rfl (fun hg => (by have hg0 := hg; (try simp at hg); exact op_gtr evG evG)) ?_ | refine JL_i rfl rfl rfl (fun hp hg => (by have hpg := Bool.and_eq_true_iff.2 ⟨hp, hg⟩; have hg0 := hg; (try simp at hg); exact op_gtr evG evG)) ?_)
  refine JL_1 rfl (op_or (Ev.rfl' rfl) rfl (fun h => by first | exact SubL.rfl' | exact SubL.iteT (by first | (rw [h]; rfl) | (simp_all; done)) SubL.rfl')) ?_
  refine JL_nil ?_
  refine JQ_then ?_
  refine JC_cond (Ev.rfl' rfl) (fun h1 => ?_) (fun h1 => ?_)
  · have h : ¬ (0 ≤ s ∧ s ≤ 8) := by simp at h1; omega
    refine JC_seq ?_
    refine JC_region ?_
    refine JL_1 rfl (op_assign rfl) ?_
    refine JL_nil ?_
    refine JQ_then (JC_ret (JQ_then_ret ?_))
    refine JQ_ret1 Try.results32 rfl () (SubL.eq ?_) (List.nil_sublist _)
    unfold lineV; rw [if_neg h]
  have h : 0 ≤ s ∧ s ≤ 8 := by simp at h1; omega
  refine JC_skip (JQ_then (JC_seq ?_))
  refine JC_region ?_
  refine JL_1 rfl (op_move rfl) ?_
  refine JL_1 rfl (op_mul (Ev.rfl' rfl) (Ev.rfl' rfl) wrapT) ?_
  refine JL_1 rfl (op_add (Ev.rfl' rfl) (Ev.rfl' rfl) wrapT) ?_
  refine JL_1 rfl (op_assign rfl) ?_
  refine JL_nil ?_
  refine JQ_then (JC_ret ?_)
  refine JQ_ret1 Try.results32 rfl () (SubL.eq ?_) (List.nil_sublist _)
  unfold lineV; rw [if_pos h]
-- segment.Locate: function 27
theorem Locate_ok (lines line : Int) : FnP Try.prog 27 [Is (.int .i64 lines), Is (.int .i64 line)] (IsTup [Is (.int .i64 (locV lines line).1), Is (.int .i64 (locV lines line).2.1), Is (.bool (locV lines line).2.2)]) := by
  have hc := count_rng lines
  refine FnP.enter Try.func27 Try.ntmps27 rfl rfl ?_
  intro c hX
  refine JC_seq ?_
  refine JC_region ?_
  refine JL_1 rfl (op_assign rfl) ?_
  refine JL_1 rfl (op_assign rfl) ?_
  refine JL_1 rfl (op_assign rfl) ?_
  refine JL_nil ?_
  refine JQ_then (JC_seq (JC_seq ?_))
  refine JC_region ?_
  refine JL_1 rfl (op_move rfl) ?_
  refine JL_1 rfl (op_lss (Ev.rfl' rfl) (Ev.rfl' rfl)) ?_
  refine JL_1 rfl (op_move rfl) ?_
  (first | refine JL_i0 rfl rfl rfl (fun hg => (by have hg0 := hg; (try simp at hg); first | exact op_moveE (Ev.sub rfl (SubL.iteT (by first | assumption | (simp; done) | (simp; omega) | (simp_all; done)) SubL.rfl')) | exact op_moveE (Ev.rfl' rfl))) ?_ | refine JL_i rfl rfl rfl (fun hp hg => (by have hpg := Bool.and_eq_true_iff.2 ⟨hp, hg⟩; have hg0 := hg; (try simp at hg); first | exact op_moveE (Ev.sub rfl (SubL.iteT (by first | assumption | (simp; done) | (simp; omega) | (simp_all; done)) SubL.rfl')) | exact op_moveE (Ev.rfl' rfl))) ?_)
  (first | refine JL_i0 rfl rfl rfl (fun hg => (by have hg0 := hg; (try simp at hg); first | exact op_moveE (Ev.sub rfl (SubL.iteT (by first | assumption | (simp; done) | (simp; omega) | (simp_all; done)) SubL.rfl')) | exact op_moveE (Ev.rfl' rfl))) ?_ | refine JL_i rfl rfl rfl (fun hp hg => (by have hpg := Bool.and_eq_true_iff.2 ⟨hp, hg⟩; have hg0 := hg; (try simp at hg); first | exact op_moveE (Ev.sub rfl (SubL.iteT (by first | assumption | (simp; done) | (simp; omega) | (simp_all; done)) SubL.rfl')) | exact op_moveE (Ev.rfl' rfl))) ?_)
  (first | refine JL_i0 rfl rfl rfl (fun hg => (by have hg0 := hg; (try simp at hg); exact op_call Try.call29 (Count_ok _) ⟨evS, trivial⟩)) ?_ | refine JL_i rfl rfl rfl (fun hp hg => (by have hpg := Bool.and_eq_true_iff.2 ⟨hp, hg⟩; have hg0 := hg; (try simp at hg); exact op_call Try.call29 (Count_ok _) ⟨evS, trivial⟩)) ?_)
  (first | refine JL_i0 rfl rfl rfl (fun hg => (by have hg0 := hg; (try simp at hg); exact op_mul evG evG wrapT)) ?_ | refine JL_i rfl rfl rfl (fun hp hg => (by have hpg := Bool.and_eq_true_iff.2 ⟨hp, hg⟩; have hg0 := hg; (try simp at hg); exact op_mul evG evG wrapT)) ?_)
  (first | refine JL_i0 rfl rfl rfl (fun hg => (by have hg0 := hg; (try simp at hg); exact op_add evG evG wrapT)) ?_ | refine JL_i rfl rfl rfl (fun hp hg => (by have hpg := Bool.and_eq_true_iff.2 ⟨hp, hg⟩; have hg0 := hg; (try simp at hg); exact op_add evG evG wrapT)) ?_)
  (first | refine JL_i0 rfl rfl rfl (fun hg => (by have hg0 := hg; (try simp at hg); exact op_geq evG evG)) ?_ | refine JL_i rfl rfl rfl (fun hp hg => (by have hpg := Bool.and_eq_true_iff.2 ⟨hp, hg⟩; have hg0 := hg; (try simp at hg); exact op_geq evG evG)) ?_)
  refine JL_1 rfl (op_or (Ev.rfl' rfl) rfl (fun h => by first | exact SubL.rfl' | exact SubL.iteT (by first | (rw [h]; rfl) | (simp_all; done)) SubL.rfl')) ?_
  refine JL_nil ?_
  refine JQ_then ?_
  refine JC_cond (Ev.rfl' rfl) (fun h1 => ?_) (fun h1 => ?_)
  · have h : locV lines line = (0, 0, false) := by
      unfold locV
      rw [if_neg]
      simp at h1
      omega
    rw [h]
    refine JC_seq ?_
    refine JC_region ?_
    refine JL_1 rfl (op_assign rfl) ?_
    refine JL_1 rfl (op_assign rfl) ?_
    refine JL_1 rfl (op_assign rfl) ?_
    refine JL_nil ?_
    refine JQ_then (JC_ret (JQ_then_ret ?_))
    exact JQ_ret (Bs := [Is (.int .i64 0), Is (.int .i64 0), Is (.bool false)]) Try.results27 ⟨⟨_, rfl, subT⟩, ⟨⟨_, rfl, subT⟩, ⟨⟨_, rfl, subT⟩, trivial⟩⟩⟩ () SubL.rfl' (List.nil_sublist _)
  have h : 104 ≤ line ∧ line < 104 + 16 * countV lines := by simp at h1; omega
  have q1 : IntKind.i64.wrap ((line - 104).tdiv 16) = (line - 104) / 16 := by rw [Int.tdiv_eq_ediv_of_nonneg (by omega), wI64 (by omega)]
  have q2 : (line - 104).tmod 16 = (line - 104) % 16 := Int.tmod_eq_emod_of_nonneg (by omega)
  clear h1
  refine JC_skip (JQ_then (JC_seq ?_))
  refine JC_region ?_
  refine JL_1 rfl (op_move rfl) ?_
  refine JL_1 rfl (op_sub (Ev.rfl' rfl) (Ev.rfl' rfl) wrapT) ?_
  refine JL_1 rfl (op_quo (Ev.rfl' rfl) (Ev.rfl' rfl) (by omega) rfl) ?_
  refine JL_1 rfl (op_move rfl) ?_
  refine JL_1 rfl (op_sub (Ev.rfl' rfl) (Ev.rfl' rfl) wrapT) ?_
  refine JL_1 rfl (op_rem (Ev.rfl' rfl) (Ev.rfl' rfl) (by omega) rfl) ?_
  refine JL_1 rfl (op_assign rfl) ?_
  refine JL_1 rfl (op_assign rfl) ?_
  refine JL_nil ?_
  refine JQ_then (JC_seq (JC_seq ?_))
  rw [q1, q2]
  refine JC_region ?_
  refine JL_1 rfl (op_move rfl) ?_
  refine JL_1 rfl (op_eql (Ev.rfl' rfl) (Ev.rfl' rfl)) ?_
  refine JL_nil ?_
  refine JQ_then ?_
  refine JC_cond (Ev.rfl' rfl) (fun h4 => ?_) (fun h4 => ?_)
  · have h5 : locV lines line = (0, 0, false) := by
      unfold locV
      rw [if_neg]
      have h6 : (line - 104) % 16 = 0 := by simpa using h4
      omega
    rw [h5]
    refine JC_seq ?_
    refine JC_region ?_
    refine JL_1 rfl (op_assign rfl) ?_
    refine JL_1 rfl (op_assign rfl) ?_
    refine JL_1 rfl (op_assign rfl) ?_
    refine JL_nil ?_
    refine JQ_then (JC_ret (JQ_then_ret ?_))
    exact JQ_ret (Bs := [Is (.int .i64 0), Is (.int .i64 0), Is (.bool false)]) Try.results27 ⟨⟨_, rfl, subT⟩, ⟨⟨_, rfl, subT⟩, ⟨⟨_, rfl, subT⟩, trivial⟩⟩⟩ () SubL.rfl' (List.nil_sublist _)
  have h5 : locV lines line = ((line - 104) / 16, (line - 104) % 16, true) := by
    unfold locV
    rw [if_pos]
    have h6 : ¬ (line - 104) % 16 = 0 := by simpa using h4
    exact ⟨h.1, h.2, h6⟩
  rw [h5]
  refine JC_skip (JQ_then (JC_seq ?_))
  refine JC_region ?_
  refine JL_1 rfl (op_move rfl) ?_
  refine JL_1 rfl (op_move rfl) ?_
  refine JL_1 rfl (op_assign rfl) ?_
  refine JL_1 rfl (op_assign rfl) ?_
  refine JL_1 rfl (op_assign rfl) ?_
  refine JL_nil ?_
  refine JQ_then (JC_ret ?_)
  exact JQ_ret (Bs := [Is (.int .i64 ((line - 104) / 16)), Is (.int .i64 ((line - 104) % 16)), Is (.bool true)]) Try.results27 ⟨⟨_, rfl, subT⟩, ⟨⟨_, rfl, subT⟩, ⟨⟨_, rfl, subT⟩, trivial⟩⟩⟩ () SubL.rfl' (List.nil_sublist _)
-- bodegaref19.Locate: function 28
theorem LocateR_ok (lines line : Int) : FnP Try.prog 28 [Is (.int .i64 lines), Is (.int .i64 line)] (IsTup [Is (.int .i64 (locV lines line).1), Is (.int .i64 (locV lines line).2.1), Is (.bool (locV lines line).2.2)]) := by
  have hc := count_rng lines
  refine FnP.enter Try.func28 Try.ntmps28 rfl rfl ?_
  intro c hX
  refine JC_seq ?_
  refine JC_region ?_
  refine JL_1 rfl (op_assign rfl) ?_
  refine JL_1 rfl (op_assign rfl) ?_
  refine JL_1 rfl (op_assign rfl) ?_
  refine JL_nil ?_
  refine JQ_then (JC_seq (JC_seq ?_))
  refine JC_region ?_
  refine JL_1 rfl (op_assign rfl) ?_
  refine JL_nil ?_
  refine JQ_then (JC_block ?_)
  refine JC_loopP (fun k : Nat => (k : Int) ≤ countV lines ∧ ∀ j : Nat, j < k → ¬ (104 + 16 * (j : Int) < line ∧ line < 104 + 16 * (j : Int) + 16)) (fun k => [(0, Is (.int .i64 lines)), (1, Is (.int .i64 line)), (7, Is (.int .i64 (k : Nat)))]) (fun _ => []) (fun k => 9 - k) 0 ⟨by omega, fun j hj => by omega⟩ esubT lessT ?_
  rintro k ⟨hk, hs⟩
  refine JC_seq (JC_seq ?_)
  refine JC_region ?_
  refine JL_1 rfl (op_move rfl) ?_
  refine JL_1 rfl (op_move rfl) ?_
  refine JL_1 rfl (op_call Try.call30 (CountR_ok _) ⟨evS, trivial⟩) ?_
  refine JL_1 rfl (op_lss (Ev.rfl' rfl) (Ev.rfl' rfl)) ?_
  refine JL_nil ?_
  refine JQ_then ?_
  refine JC_cond (Ev.rfl' rfl) (fun h2 => ?_) (fun h2 => ?_)
  · have hlt : (k : Int) < countV lines := of_decide_eq_true h2
    have hline : lineV (k : Int) = 104 + 16 * k := by unfold lineV; rw [if_pos (by omega)]
    clear h2
    refine JC_skip (JQ_then (JC_seq (JC_block (JC_seq ?_))))
    refine JC_region ?_
    refine JL_1 rfl (op_move rfl) ?_
    refine JL_1 rfl (op_move rfl) ?_
    refine JL_1 rfl (op_call Try.call32 (HeaderLineR_ok _) ⟨evS, trivial⟩) ?_
    refine JL_1 rfl (op_sub (Ev.rfl' rfl) (Ev.rfl' rfl) rfl) ?_
    rw [hline]
    refine JL_1 rfl (op_assign rfl) ?_
    refine JL_nil ?_
    refine JQ_then (JC_seq ?_)
    refine JC_region ?_
    refine JL_1 rfl (op_move rfl) ?_
    refine JL_1 rfl (op_move rfl) ?_
    refine JL_1 rfl (op_call Try.call32 (HeaderLineR_ok _) ⟨evS, trivial⟩) ?_
    refine JL_1 rfl (op_gtr (Ev.rfl' rfl) (Ev.rfl' rfl)) ?_
    refine JL_1 rfl (op_move rfl) ?_
    (first | refine JL_i0 rfl rfl rfl (fun hg => (by have hg0 := hg; (try simp at hg); first | exact op_moveE (Ev.sub rfl (SubL.iteT (by first | assumption | (simp; done) | (simp; omega) | (simp_all; done)) SubL.rfl')) | exact op_moveE (Ev.rfl' rfl))) ?_ | refine JL_i rfl rfl rfl (fun hp hg => (by have hpg := Bool.and_eq_true_iff.2 ⟨hp, hg⟩; have hg0 := hg; (try simp at hg); first | exact op_moveE (Ev.sub rfl (SubL.iteT (by first | assumption | (simp; done) | (simp; omega) | (simp_all; done)) SubL.rfl')) | exact op_moveE (Ev.rfl' rfl))) ?_)
    (first | refine JL_i0 rfl rfl rfl (fun hg => (by have hg0 := hg; (try simp at hg); first | exact op_moveE (Ev.sub rfl (SubL.iteT (by first | assumption | (simp; done) | (simp; omega) | (simp_all; done)) SubL.rfl')) | exact op_moveE (Ev.rfl' rfl))) ?_ | refine JL_i rfl rfl rfl (fun hp hg => (by have hpg := Bool.and_eq_true_iff.2 ⟨hp, hg⟩; have hg0 := hg; (try simp at hg); first | exact op_moveE (Ev.sub rfl (SubL.iteT (by first | assumption | (simp; done) | (simp; omega) | (simp_all; done)) SubL.rfl')) | exact op_moveE (Ev.rfl' rfl))) ?_)
    (first | refine JL_i0 rfl rfl rfl (fun hg => (by have hg0 := hg; (try simp at hg); exact op_call Try.call32 (HeaderLineR_ok _) ⟨evS, trivial⟩)) ?_ | refine JL_i rfl rfl rfl (fun hp hg => (by have hpg := Bool.and_eq_true_iff.2 ⟨hp, hg⟩; have hg0 := hg; (try simp at hg); exact op_call Try.call32 (HeaderLineR_ok _) ⟨evS, trivial⟩)) ?_)
    (first | refine JL_i0 rfl rfl rfl (fun hg => (by have hg0 := hg; (try simp at hg); exact op_add evG evG wrapT)) ?_ | refine JL_i rfl rfl rfl (fun hp hg => (by have hpg := Bool.and_eq_true_iff.2 ⟨hp, hg⟩; have hg0 := hg; (try simp at hg); exact op_add evG evG wrapT)) ?_)
    (first | refine JL_i0 rfl rfl rfl (fun hg => (by have hg0 := hg; (try simp at hg); exact op_lss evG evG)) ?_ | refine JL_i rfl rfl rfl (fun hp hg => (by have hpg := Bool.and_eq_true_iff.2 ⟨hp, hg⟩; have hg0 := hg; (try simp at hg); exact op_lss evG evG)) ?_)
    refine JL_1 rfl (op_and (Ev.rfl' rfl) rfl (fun h => by first | exact SubL.rfl' | exact SubL.iteT (by first | (rw [h]; rfl) | (simp_all; done)) SubL.rfl')) ?_
    refine JL_nil ?_
    refine JQ_then ?_
    refine JC_cond (Ev.rfl' rfl) (fun h5 => ?_) (fun h5 => ?_)
    · have h6 : 104 + 16 * (k : Int) < line ∧ line < 104 + 16 * (k : Int) + 16 := by rw [hline] at h5; simp at h5; omega
      have e : locV lines line = ((k : Int), line - (104 + 16 * (k : Int)), true) := by
        unfold locV
        rw [if_pos (by omega)]
        have e1 : (line - 104) / 16 = k := by omega
        have e2 : (line - 104) % 16 = line - (104 + 16 * (k : Int)) := by omega
        rw [e1, e2]
      have hw : IntKind.i64.wrap (line - (104 + 16 * (k : Int))) = line - (104 + 16 * (k : Int)) := wI64 (by omega)
      rw [e, hw]
      refine JC_seq ?_
      refine JC_region ?_
      refine JL_1 rfl (op_move rfl) ?_
      refine JL_1 rfl (op_move rfl) ?_
      refine JL_1 rfl (op_assign rfl) ?_
      refine JL_1 rfl (op_assign rfl) ?_
      refine JL_1 rfl (op_assign rfl) ?_
      refine JL_nil ?_
      refine JQ_then (JC_ret (JQ_block_ret (JQ_then_ret (JQ_then_ret (JQ_block_ret (JQ_then_ret ?_))))))
      exact JQ_ret (Bs := [Is (.int .i64 (k : Int)), Is (.int .i64 (line - (104 + 16 * (k : Int)))), Is (.bool true)]) Try.results28 ⟨⟨_, rfl, subT⟩, ⟨⟨_, rfl, subT⟩, ⟨⟨_, rfl, subT⟩, trivial⟩⟩⟩ () SubL.rfl' (List.nil_sublist _)
    have h6 : ¬ (104 + 16 * (k : Int) < line ∧ line < 104 + 16 * (k : Int) + 16) := by rw [hline] at h5; simp at h5; omega
    clear h5
    refine JC_skip (JQ_block (JQ_then ?_))
    refine JC_region ?_
    refine JL_1 rfl (op_move rfl) ?_
    refine JL_1 rfl (op_add (Ev.rfl' rfl) (Ev.rfl' rfl) wrapT) ?_
    refine JL_1 rfl (op_assign rfl) ?_
    refine JL_nil ?_
    exact JQ_roundP (k + 1) ⟨by omega, fun j hj => by
      by_cases hjk : j = k
      · subst hjk; exact h6
      · exact hs j (by omega)⟩ (by omega) esubT lessT
  have hge : countV lines ≤ k := by have := of_decide_eq_false h2; omega
  have e : locV lines line = (0, 0, false) := by
    unfold locV
    rw [if_neg]
    rintro ⟨g1, g2, g3⟩
    have := hs ((line - 104) / 16).toNat (by omega)
    omega
  rw [e]
  refine JC_exit (JQ_then_exit (JQ_then_exit (JQ_hit (JQ_then (JC_seq ?_)))))
  refine JC_region ?_
  refine JL_1 rfl (op_assign rfl) ?_
  refine JL_1 rfl (op_assign rfl) ?_
  refine JL_1 rfl (op_assign rfl) ?_
  refine JL_nil ?_
  refine JQ_then (JC_ret ?_)
  exact JQ_ret (Bs := [Is (.int .i64 0), Is (.int .i64 0), Is (.bool false)]) Try.results28 ⟨⟨_, rfl, subT⟩, ⟨⟨_, rfl, subT⟩, ⟨⟨_, rfl, subT⟩, trivial⟩⟩⟩ () SubL.rfl' (List.nil_sublist _)
end Go.Proofs.Ytpfojangcgffkaa

/- Rule: an array is built. Own work. -/
namespace Go.Proofs.Ytpfojangcgffkaa
open Go.RowKit
set_option linter.unusedVariables false
set_option linter.unusedSimpArgs false
section
variable {P : Program} {c : Ctx} {A : Nat → Option VP} {L : List Item} {d : Option Tmp} {ty : TypeId} {pos : String} {af : Array Edge} {g : Option (Nat × Bool)}
theorem op_buildArr {t e : TypeId} {len size : Nat} {ps : Array (Nat × Operand)} {zs : List Value} {qs : List (Nat × List VP)} {Rs Rs' : List VP} (hu : P.underlying t = some (.array len e)) (hs : (P.info? e).map (·.size) = some size) (hz : (P.info? t).map (·.zero) = some (some (.agg zs.toArray))) (h1 : (zs.all Value.oneCell') = true)
    (hq : PartsE A L ps.toList qs) (hf : fillL (fun i => some (i * size, size)) (zs.map Is) qs = some Rs) (hR : Rs = Rs') : OpP P c ⟨d, .build t ps, ty, pos, af, g⟩ A L (IsAgg Rs') := by
  subst hR
  exact opp fun φ a w hm he => by
    have hp := hq.at_ (φ := φ) (a := a) fun i x hx => he x (by simp only [Op.operands]; simp; exact ⟨i, by simpa using hx⟩)
    obtain ⟨rs, g1, g2⟩ := fill_ok (alls_is (φ := φ) zs) (ones_all h1) hp hf
    refine ⟨.agg rs.toArray, ?_, ⟨rs, rfl, g2⟩⟩
    simp only [execOp]
    refine run_val ?_
    have h3 : (ps.map fun x => (x.1, a.eval x.2)).toList = ps.toList.map fun p => (p.1, a.eval p.2) := by simp
    simp only [Instr.build, Sem.run_bind, run_zero hz, Result.andThen_ok, run_underlying hu, run_sizeOf hs]
    rw [h3]
    show (match Instr.fill (fun i => some (i * size, size)) zs.toArray (ps.toList.map fun p => (p.1, a.eval p.2)) with | some cells => pure (.agg cells) | _ => stuck _ : Sem Value).run P w = _
    rw [g1]; rfl
end
end Go.Proofs.Ytpfojangcgffkaa

/- Contracts: header pages read and written, by the program and by the reference. Own work. -/
namespace Go.Proofs.Ytpfojangcgffkaa
open Go.RowKit
set_option linter.unusedVariables false
set_option linter.unusedSimpArgs false
set_option maxRecDepth 100000
/-- A part from a place on of an array that stays. -/
theorem op_sliceRefL {P : Program} {c : Ctx} {A : Nat → Option VP} {L : List Item} {d : Option Tmp} {ty : TypeId} {pos : String} {af : Array Edge} {g : Option (Nat × Bool)} {α : Type} {T : Ty α} (xs : List α) {x y : Operand} {t e : TypeId} {n l : Nat} {k1 : IntKind} {i1 : Int} {As : List VP} (hx : Ev A L x (IsRef As)) (hu : P.underlying t = some (.array n e)) (hs : (P.info? e).map (·.size) = some T.size) (hy : Ev A L y (Is (.int k1 i1)))
    (e1 : i1 = l) (h1 : l ≤ n) (hn : xs.length = n) (hm : Nat.ble n maxLen = true) (h : SubLs L (As.take (n * T.size)) (xs.flatMap T.cells)) :
    OpP P c ⟨d, .slice t x (some y) none none, ty, pos, af, g⟩ A L (IsSl T (xs.drop l)) := by
  intro φ a w K Q hh he hk
  obtain ⟨b, o, f1, f2⟩ : (IsRef As).ok φ (a.eval x) := he x (by simp [Op.operands]) _ hx
  have g1 : a.eval y = .int k1 i1 := he y (by simp [Op.operands]) _ hy
  have hat : SlAt T φ (some ⟨b, o, none⟩) n n xs := by
    refine ⟨hn.symm, Nat.le_refl _, Nat.le_of_ble_eq_true hm, .inr ⟨b, o, rfl, fun k z hj j B hB => ?_⟩⟩
    obtain ⟨D, h3, h4⟩ := subLs_get (Bs := []) h (flat_idx hj hB)
    have h5 : As[k * T.size + j]? = some D := by
      rw [List.getElem?_take] at h3
      split at h3
      · exact h3
      · cases h3
    obtain ⟨v, h6, h7, h8⟩ := f2 _ D h5
    exact ⟨v, by rw [Nat.add_assoc]; exact h6, h4 φ v hh.mem.facts h7, h8⟩
  have hrun : (execOp a.eval ⟨d, .slice t x (some y) none none, ty, pos, af, g⟩).run P w = .ok (.value (.slice (if n = l then some ⟨b, o, none⟩ else (some ⟨b, o, none⟩ : Option Addr).map (·.add (l * T.size))) (n - l) (n - l))) w := by
    simp only [execOp, f1]
    refine run_val ?_
    simp only [Instr.sliceAt, Sem.run_bind, run_underlying hu, Result.andThen_ok, Instr.sureAddr, Sem.run_pure, Option.map_none, Option.map_some, Instr.sliceBounds, g1, run_bound (P := P) (y := k1) (k := k1) e1 h1, run_sizeOf hs]
    by_cases hc : n = l <;> simp [hc]
  unfold Oper.wp
  rw [hrun]
  have hcut := hat.cut h1 (Nat.le_refl n)
  rw [List.take_of_length_le (by omega)] at hcut
  exact hk φ _ w hh.idle ⟨_, _, _, rfl, hcut⟩
theorem andNot_u32 (a b : BitVec 32) : Op.intBits .andNot .u32 (UV a) (UV b) = pure (.int .u32 (UV (a &&& ~~~b))) := by
  rw [intBits_andNot]; congr 2
  show IntKind.u32.wrap ((BitVec.ofInt 32 (UV a) &&& ~~~ BitVec.ofInt 32 (UV b)).toNat : Int) = _
  rw [ofInt_UV, ofInt_UV, wrap_UV32]; rfl
theorem hdr_val (l : Int) (h : 104 ≤ l ∧ l < 248) : hdrB l = ((l - 104).tmod 16 == 0) := by
  unfold hdrB
  rw [Int.tmod_eq_emod_of_nonneg (by omega), Bool.eq_iff_iff]
  simp
  omega
-- segment.isHeaderLine: function 63
theorem isHeaderLine_ok (l : Int) : FnP Try.prog 63 [Is (.int .i64 l)] (Is (.bool (hdrB l))) := by
  refine FnP.enter Try.func63 Try.ntmps63 rfl rfl ?_
  intro c hX
  refine JC_seq ?_
  refine JC_region ?_
  refine JL_1 rfl (op_assign rfl) ?_
  refine JL_nil ?_
  refine JQ_then (JC_seq ?_)
  refine JC_region ?_
  refine JL_1 rfl (op_move rfl) ?_
  refine JL_1 rfl (op_geq (Ev.rfl' rfl) (Ev.rfl' rfl)) ?_
  refine JL_1 rfl (op_move rfl) ?_
  (first | refine JL_i0 rfl rfl rfl (fun hg => (by have hg0 := hg; (try simp at hg); first | exact op_moveE (Ev.sub rfl (SubL.iteT (by first | assumption | (simp; done) | (simp; omega) | (simp_all; done)) SubL.rfl')) | exact op_moveE (Ev.rfl' rfl))) ?_ | refine JL_i rfl rfl rfl (fun hp hg => (by have hpg := Bool.and_eq_true_iff.2 ⟨hp, hg⟩; have hg0 := hg; (try simp at hg); first | exact op_moveE (Ev.sub rfl (SubL.iteT (by first | assumption | (simp; done) | (simp; omega) | (simp_all; done)) SubL.rfl')) | exact op_moveE (Ev.rfl' rfl))) ?_)
  (first | refine JL_i0 rfl rfl rfl (fun hg => (by have hg0 := hg; (try simp at hg); exact op_lss evG evG)) ?_ | refine JL_i rfl rfl rfl (fun hp hg => (by have hpg := Bool.and_eq_true_iff.2 ⟨hp, hg⟩; have hg0 := hg; (try simp at hg); exact op_lss evG evG)) ?_)
  refine JL_1 rfl (op_and (Ev.rfl' rfl) rfl (fun h => by first | exact SubL.rfl' | exact SubL.iteT (by first | (rw [h]; rfl) | (simp_all; done)) SubL.rfl')) ?_
  refine JL_1 rfl (op_move rfl) ?_
  (first | refine JL_i0 rfl rfl rfl (fun hg => (by have hg0 := hg; (try simp at hg); first | exact op_moveE (Ev.sub rfl (SubL.iteT (by first | assumption | (simp; done) | (simp; omega) | (simp_all; done)) SubL.rfl')) | exact op_moveE (Ev.rfl' rfl))) ?_ | refine JL_i rfl rfl rfl (fun hp hg => (by have hpg := Bool.and_eq_true_iff.2 ⟨hp, hg⟩; have hg0 := hg; (try simp at hg); first | exact op_moveE (Ev.sub rfl (SubL.iteT (by first | assumption | (simp; done) | (simp; omega) | (simp_all; done)) SubL.rfl')) | exact op_moveE (Ev.rfl' rfl))) ?_)
  (first | refine JL_i0 rfl rfl rfl (fun hg => (by have hg0 := hg; (try simp at hg); exact op_sub evG evG wrapT)) ?_ | refine JL_i rfl rfl rfl (fun hp hg => (by have hpg := Bool.and_eq_true_iff.2 ⟨hp, hg⟩; have hg0 := hg; (try simp at hg); exact op_sub evG evG wrapT)) ?_)
  (first | refine JL_i0 rfl rfl rfl (fun hg => (by have hg0 := hg; (try simp at hg); exact op_rem evG evG (by omega) rfl)) ?_ | refine JL_i rfl rfl rfl (fun hp hg => (by have hpg := Bool.and_eq_true_iff.2 ⟨hp, hg⟩; have hg0 := hg; (try simp at hg); exact op_rem evG evG (by omega) rfl)) ?_)
  (first | refine JL_i0 rfl rfl rfl (fun hg => (by have hg0 := hg; (try simp at hg); exact op_eql evG evG)) ?_ | refine JL_i rfl rfl rfl (fun hp hg => (by have hpg := Bool.and_eq_true_iff.2 ⟨hp, hg⟩; have hg0 := hg; (try simp at hg); exact op_eql evG evG)) ?_)
  refine JL_1 rfl (op_and (Ev.rfl' rfl) rfl (fun h => by first | exact SubL.rfl' | exact SubL.iteT (by first | (rw [h]; rfl) | (simp_all; done)) SubL.rfl')) ?_
  refine JL_1 rfl (op_assign rfl) ?_
  refine JL_nil ?_
  refine JQ_then (JC_ret ?_)
  refine JQ_ret1 Try.results63 rfl () (SubL.eq ?_) (List.nil_sublist _)
  congr 2
  by_cases h : 104 ≤ l ∧ l < 248
  · rw [hdr_val l h, decide_eq_true (by omega : l ≥ 104), decide_eq_true (by omega : l < 248)]; simp
  · have e : hdrB l = false := by unfold hdrB; rw [decide_eq_false]; omega
    rw [e]
    by_cases h1 : l ≥ 104
    · rw [decide_eq_false (by omega : ¬ l < 248)]; simp
    · rw [decide_eq_false h1]; simp
-- bodegaref19.isHeader: function 65
theorem isHeaderR_ok (l : Int) : FnP Try.prog 65 [Is (.int .i64 l)] (Is (.bool (hdrB l))) := by
  refine FnP.enter Try.func65 Try.ntmps65 rfl rfl ?_
  intro c hX
  refine JC_seq ?_
  refine JC_region ?_
  refine JL_1 rfl (op_assign rfl) ?_
  refine JL_nil ?_
  refine JQ_then (JC_seq (JC_seq ?_))
  refine JC_region ?_
  refine JL_1 rfl (op_assign rfl) ?_
  refine JL_nil ?_
  refine JQ_then (JC_block ?_)
  refine JC_loopP (fun k : Nat => k ≤ 9 ∧ ∀ j : Nat, j < k → l ≠ 104 + 16 * (j : Int)) (fun k => [(0, Is (.int .i64 l)), (3, Is (.int .i64 (k : Nat)))]) (fun _ => []) (fun k => 9 - k) 0 ⟨by omega, fun j hj => by omega⟩ esubT lessT ?_
  rintro k ⟨hk, hs⟩
  refine JC_seq (JC_seq ?_)
  refine JC_region ?_
  refine JL_1 rfl (op_move rfl) ?_
  refine JL_1 rfl (op_leq (Ev.rfl' rfl) (Ev.rfl' rfl)) ?_
  refine JL_nil ?_
  refine JQ_then ?_
  refine JC_cond (Ev.rfl' rfl) (fun h2 => ?_) (fun h2 => ?_)
  · have hlt : k ≤ 8 := by have := of_decide_eq_true h2; omega
    have hline : lineV (k : Int) = 104 + 16 * k := by unfold lineV; rw [if_pos (by omega)]
    clear h2
    refine JC_skip (JQ_then (JC_seq (JC_block (JC_seq ?_))))
    refine JC_region ?_
    refine JL_1 rfl (op_move rfl) ?_
    refine JL_1 rfl (op_move rfl) ?_
    refine JL_1 rfl (op_call Try.call32 (HeaderLineR_ok _) ⟨evS, trivial⟩) ?_
    refine JL_1 rfl (op_eql (Ev.rfl' rfl) (Ev.rfl' rfl)) ?_
    refine JL_nil ?_
    refine JQ_then ?_
    refine JC_cond (Ev.rfl' rfl) (fun h4 => ?_) (fun h4 => ?_)
    · have h5 : l = 104 + 16 * (k : Int) := by rw [hline] at h4; simpa using h4
      have e : hdrB l = true := by unfold hdrB; rw [decide_eq_true]; omega
      refine JC_seq ?_
      refine JC_region ?_
      refine JL_1 rfl (op_assign rfl) ?_
      refine JL_nil ?_
      refine JQ_then (JC_ret (JQ_block_ret (JQ_then_ret (JQ_then_ret (JQ_block_ret (JQ_then_ret ?_))))))
      refine JQ_ret1 Try.results65 rfl () (SubL.eq ?_) (List.nil_sublist _)
      rw [e]
    have h5 : l ≠ 104 + 16 * (k : Int) := by rw [hline] at h4; simpa using h4
    clear h4
    refine JC_skip (JQ_block (JQ_then ?_))
    refine JC_region ?_
    refine JL_1 rfl (op_move rfl) ?_
    refine JL_1 rfl (op_add (Ev.rfl' rfl) (Ev.rfl' rfl) wrapT) ?_
    refine JL_1 rfl (op_assign rfl) ?_
    refine JL_nil ?_
    exact JQ_roundP (k + 1) ⟨by omega, fun j hj => by
      by_cases hjk : j = k
      · subst hjk; exact h5
      · exact hs j (by omega)⟩ (by omega) esubT lessT
  have hge : 9 ≤ k := by have := of_decide_eq_false h2; omega
  have e : hdrB l = false := by
    unfold hdrB
    rw [decide_eq_false]
    rintro ⟨g1, g2, g3⟩
    have := hs ((l - 104) / 16).toNat (by omega)
    omega
  refine JC_exit (JQ_then_exit (JQ_then_exit (JQ_hit (JQ_then (JC_seq ?_)))))
  refine JC_region ?_
  refine JL_1 rfl (op_assign rfl) ?_
  refine JL_nil ?_
  refine JQ_then (JC_ret ?_)
  refine JQ_ret1 Try.results65 rfl () (SubL.eq ?_) (List.nil_sublist _)
  rw [e]
def idxU : List (BitVec 64) → Nat → Int
  | [], _ => -1
  | x :: xs, k => if x = 0#64 then idxU xs (k + 1) else (k : Int)
theorem idxU_any : ∀ (xs : List (BitVec 64)) (k : Nat), decide (idxU xs k ≥ 0) = xs.any fun x => decide (x ≠ 0#64)
  | [], k => rfl
  | x :: xs, k => by
    unfold idxU
    by_cases h : x = 0#64
    · rw [if_pos h, idxU_any xs]; simp [h]
    · rw [if_neg h]
      simp [h]
-- segment.zeros$1: function 109
theorem zeros1_ok (x : BitVec 64) : FnP Try.prog 109 [Is (.int .u64 (UV x))] (Is (.bool (decide (x ≠ 0#64)))) := by
  refine FnP.enter Try.func109 Try.ntmps109 rfl rfl ?_
  intro c hX
  refine JC_seq ?_
  refine JC_region ?_
  refine JL_1 rfl (op_assign rfl) ?_
  refine JL_nil ?_
  refine JQ_then (JC_seq ?_)
  refine JC_region ?_
  refine JL_1 rfl (op_move rfl) ?_
  refine JL_1 rfl (op_neq (Ev.rfl' rfl) (Ev.rfl' rfl)) ?_
  refine JL_1 rfl (op_assign rfl) ?_
  refine JL_nil ?_
  refine JQ_then (JC_ret ?_)
  refine JQ_ret1 Try.results109 rfl () (SubL.eq ?_) (List.nil_sublist _)
  congr 2
  rw [show (0 : Int) = UV 0#64 from rfl, Bool.eq_iff_iff]
  simp [UV_inj]
-- slices.IndexFunc[[]uint64,uint64]: function 129
theorem IndexU_ok (xs : List (BitVec 64)) : FnP Try.prog 129 [IsSl tU64 xs, Is (.func (.func 109) #[] #[])] (Is (.int .i64 (idxU xs 0))) := by
  refine FnP.enter Try.func129 Try.ntmps129 rfl rfl ?_
  intro c hX
  refine JC_len (t := 0) rfl (fun hlen => ?_)
  refine JC_seq ?_
  refine JC_region ?_
  refine JL_1 rfl (op_assign rfl) ?_
  refine JL_nil ?_
  refine JQ_then (JC_seq (JC_seq ?_))
  refine JC_region ?_
  refine JL_1 rfl (op_move rfl) ?_
  refine JL_1 rfl (by first | exact op_len (Ev.rfl' rfl) rfl | exact op_lenLit (Ev.rfl' rfl) rfl) ?_
  refine JL_1 rfl (op_move rfl) ?_
  refine JL_nil ?_
  refine JQ_then (JC_block ?_)
  refine JC_loopP (fun k : Nat => k ≤ xs.length ∧ idxU xs 0 = idxU (xs.drop k) k) (fun k => [(0, IsSl tU64 xs), (1, Is (.func (.func 109) #[] #[])), (7, Is (.int .i64 xs.length)), (8, Is (.int .i64 (k : Nat)))]) (fun _ => []) (fun k => xs.length - k) 0 ⟨Nat.zero_le _, rfl⟩ esubT lessT ?_
  rintro k ⟨hk, hs⟩
  refine JC_seq ?_
  refine JC_region ?_
  refine JL_1 rfl (op_lss (Ev.rfl' rfl) (Ev.rfl' rfl)) ?_
  refine JL_nil ?_
  refine JQ_then (JC_seq ?_)
  refine JC_cond (Ev.rfl' rfl) (fun h2 => ?_) (fun h2 => ?_)
  · have hlt : k < xs.length := by have := of_decide_eq_true h2; omega
    clear h2
    obtain ⟨z, hz⟩ : ∃ z, xs[k]? = some z := ⟨xs[k], List.getElem?_eq_getElem hlt⟩
    have hd : xs.drop k = z :: xs.drop (k + 1) := by
      rw [List.drop_eq_getElem_cons hlt]
      congr 1
      rw [List.getElem?_eq_getElem hlt] at hz
      exact Option.some.inj hz
    have e2 : idxU (z :: xs.drop (k + 1)) k = if z = 0#64 then idxU (xs.drop (k + 1)) (k + 1) else (k : Int) := rfl
    rw [hd, e2] at hs
    refine JC_skip (JQ_then (JC_seq (JC_block (JC_seq ?_))))
    refine JC_region ?_
    refine JL_1 rfl (op_move rfl) ?_
    refine JL_1 rfl (op_assign rfl) ?_
    refine JL_nil ?_
    refine JQ_then (JC_seq ?_)
    refine JC_region ?_
    refine JL_1 rfl (op_move rfl) ?_
    refine JL_1 rfl (op_move rfl) ?_
    refine JL_1 rfl (op_move rfl) ?_
    refine JL_1 rfl (by first | exact op_index (j := _) (Ev.rfl' rfl) (Ev.rfl' rfl) rfl rfl (by first | rfl | omega) hz | exact op_index (j := _) (Ev.rfl' rfl) (Ev.rfl' rfl) rfl rfl (by first | rfl | omega) (by assumption)) ?_
    refine JL_1 rfl (by first | exact op_loadRef (Ev.rfl' rfl) rfl rfl rfl | exact op_loadPtr (Ev.rfl' rfl) memT (by rfl) (by rfl) (by rfl)) ?_
    refine JL_1 rfl (op_callV0 (Ev.rfl' rfl) Try.call109 (zeros1_ok _) ⟨evS, trivial⟩) ?_
    refine JL_nil ?_
    refine JQ_then ?_
    refine JC_cond (Ev.rfl' rfl) (fun h4 => ?_) (fun h4 => ?_)
    · have h5 : ¬ z = 0#64 := of_decide_eq_true h4
      rw [if_neg h5] at hs
      refine JC_seq ?_
      refine JC_region ?_
      refine JL_1 rfl (op_move rfl) ?_
      refine JL_1 rfl (op_assign rfl) ?_
      refine JL_nil ?_
      refine JQ_then (JC_ret (JQ_block_ret (JQ_then_ret (JQ_then_ret (JQ_block_ret (JQ_then_ret ?_))))))
      refine JQ_ret1 Try.results129 rfl () (SubL.eq ?_) (List.nil_sublist _)
      rw [hs]
    have h5 : z = 0#64 := Classical.not_not.1 (of_decide_eq_false h4)
    rw [if_pos h5] at hs
    refine JC_skip (JQ_block (JQ_then ?_))
    refine JC_region ?_
    refine JL_1 rfl (op_add (Ev.rfl' rfl) (Ev.rfl' rfl) wrapT) ?_
    refine JL_1 rfl (op_move rfl) ?_
    refine JL_nil ?_
    exact JQ_roundP (k + 1) ⟨by omega, hs⟩ (by omega) esubT lessT
  have hge : k = xs.length := by have := of_decide_eq_false h2; omega
  subst hge
  rw [List.drop_length] at hs
  refine JC_exit (JQ_then_exit (JQ_then_exit (JQ_hit (JQ_then (JC_seq ?_)))))
  refine JC_region ?_
  refine JL_1 rfl (op_assign rfl) ?_
  refine JL_nil ?_
  refine JQ_then (JC_ret ?_)
  refine JQ_ret1 Try.results129 rfl () (SubL.eq ?_) (List.nil_sublist _)
  rw [hs]; rfl
-- slices.ContainsFunc[[]uint64,uint64]: function 108
theorem ContainsU_ok (xs : List (BitVec 64)) : FnP Try.prog 108 [IsSl tU64 xs, Is (.func (.func 109) #[] #[])] (Is (.bool (xs.any fun x => decide (x ≠ 0#64)))) := by
  refine FnP.enter Try.func108 Try.ntmps108 rfl rfl ?_
  intro c hX
  refine JC_seq ?_
  refine JC_region ?_
  refine JL_1 rfl (op_assign rfl) ?_
  refine JL_nil ?_
  refine JQ_then (JC_seq ?_)
  refine JC_region ?_
  refine JL_1 rfl (op_move rfl) ?_
  refine JL_1 rfl (op_move rfl) ?_
  refine JL_1 rfl (op_call Try.call129 (IndexU_ok _) ⟨evS, ⟨evS, trivial⟩⟩) ?_
  refine JL_1 rfl (op_geq (Ev.rfl' rfl) (Ev.rfl' rfl)) ?_
  refine JL_1 rfl (op_assign rfl) ?_
  refine JL_nil ?_
  refine JQ_then (JC_ret ?_)
  refine JQ_ret1 Try.results108 rfl () (SubL.eq ?_) (List.nil_sublist _)
  rw [idxU_any]
-- segment.zeros: function 64
theorem zeros_ok (xs : List (BitVec 64)) : FnP Try.prog 64 [IsSl tU64 xs] (Is (.bool (!xs.any fun x => decide (x ≠ 0#64)))) := by
  refine FnP.enter Try.func64 Try.ntmps64 rfl rfl ?_
  intro c hX
  refine JC_seq ?_
  refine JC_region ?_
  refine JL_1 rfl (op_assign rfl) ?_
  refine JL_nil ?_
  refine JQ_then (JC_seq ?_)
  refine JC_region ?_
  refine JL_1 rfl (op_move rfl) ?_
  refine JL_1 rfl (op_call Try.call108 (ContainsU_ok _) ⟨evS, ⟨evS, trivial⟩⟩) ?_
  refine JL_1 rfl (op_not (Ev.rfl' rfl)) ?_
  refine JL_1 rfl (op_assign rfl) ?_
  refine JL_nil ?_
  refine JQ_then (JC_ret ?_)
  refine JQ_ret1 Try.results64 rfl () (SubL.eq ?_) (List.nil_sublist _)
  rfl
def dat (p : Pg) : List (BitVec 64) := [p.d0, p.d1, p.d2, p.d3, p.d4, p.d5, p.d6]
def datAt (p : Pg) (k : Nat) : BitVec 64 := (dat p).getD k 0#64
/-- The words behind the second are zero. -/
def zB (p : Pg) : Bool := decide (p.d2 = 0#64) && (decide (p.d3 = 0#64) && (decide (p.d4 = 0#64) && (decide (p.d5 = 0#64) && decide (p.d6 = 0#64))))
def useB (p : Pg) : Bool := decide (UV p.d0 > 6) || UV (p.d1 &&& ~~~BitVec.ofInt 64 65534) != 0
def readH (p : Pg) : Hd × Int := if hdrB p.l = true then (if (useB p || !zB p) = true then (Hd.nil, 14) else (⟨UV p.d0 - 1, p.d1.setWidth 32⟩, 0)) else (Hd.nil, 1)
theorem zB_any (p : Pg) : (!((dat p).drop 2).any fun x => decide (x ≠ 0#64)) = zB p := by
  unfold zB dat
  simp only [List.drop_succ_cons, List.drop_zero, List.any_cons, List.any_nil, decide_not]
  simp only [Bool.or_false, Bool.not_or, Bool.not_not]
theorem use_rng {p : Pg} (h : useB p = false) : UV p.d0 ≤ 6 := by
  unfold useB at h
  simp at h
  exact h.1
-- segment.ReadHeader: function 15
set_option maxHeartbeats 1000000 in
theorem ReadHeader_ok (p : Pg) : FnP Try.prog 15 [IsPg p] (IsTup [IsHd (readH p).1, Is (.int .i64 (readH p).2)]) := by
  have h0 := UV_nonneg p.d0
  have hd0 : (dat p)[0]? = some p.d0 := rfl
  have hd1 : (dat p)[1]? = some p.d1 := rfl
  refine FnP.enter Try.func15 Try.ntmps15 rfl rfl ?_
  intro c hX
  refine JC_seq ?_
  refine JC_region ?_
  (refine JL_n rfl (op_box (Ev.rfl' rfl) cellsT) ?_; intro i1)
  (refine JL_n rfl (op_allocN rfl nrmT rfl) ?_; intro i2)
  refine JL_1 rfl (op_assign rfl) ?_
  refine JL_nil ?_
  refine JQ_then (JC_seq (JC_seq ?_))
  refine JC_freezeB hX (b := i1) replT ?_
  refine JC_set 1 (IsRef (tPg.cells p)) rfl (SubL.fact memT) ?_
  refine JC_region ?_
  refine JL_1 rfl (by first | exact op_fieldPtr (k := 0) (Ev.rfl' rfl) rfl rfl rfl rfl | exact op_fieldRefN (k := 0) (Ev.rfl' rfl) rfl rfl rfl rfl nrmT) ?_
  refine JL_1 rfl (by first | exact op_loadRef (Ev.rfl' rfl) rfl rfl rfl | exact op_loadPtr (Ev.rfl' rfl) memT (by rfl) (by rfl) (by rfl)) ?_
  refine JL_1 rfl (op_call Try.call63 (isHeaderLine_ok _) ⟨evS, trivial⟩) ?_
  refine JL_1 rfl (op_not (Ev.rfl' rfl)) ?_
  refine JL_nil ?_
  refine JQ_then ?_
  refine JC_cond (Ev.rfl' rfl) (fun h1 => ?_) (fun h1 => ?_)
  · have e : readH p = (Hd.nil, 1) := by unfold readH; rw [if_neg (by simpa using h1)]
    rw [e]
    refine JC_seq ?_
    refine JC_region ?_
    refine JL_1 rfl (op_buildN (qs := []) rfl rfl rfl rfl trivial (by rfl) nrmT) ?_
    refine JL_s0 (op_storeN (Ev.rfl' rfl) (Ev.rfl' rfl) cellsT replT nrmT (by rfl) (by rfl) (by rfl)) ?_
    refine JL_1 rfl (op_assign rfl) ?_
    refine JL_nil ?_
    refine JQ_then (JC_ret (JQ_then_ret ?_))
    exact JQ_ret (Bs := [IsHd Hd.nil, Is (.int .i64 1)]) Try.results15 ⟨⟨_, _, _, _, rfl, memT, rfl, .inr ⟨rfl, _, rfl, rfl, subT⟩⟩, ⟨⟨_, rfl, subT⟩, trivial⟩⟩ () SubL.rfl' (List.nil_sublist _)
  have hl : hdrB p.l = true := by simpa using h1
  refine JC_skip (JQ_then (JC_seq (JC_seq ?_)))
  refine JC_region ?_
  refine JL_1 rfl (by first | exact op_fieldPtr (k := 2) (Ev.rfl' rfl) rfl rfl rfl rfl | exact op_fieldRefN (k := 2) (Ev.rfl' rfl) rfl rfl rfl rfl nrmT) ?_
  refine JL_1 rfl (by first | exact op_indexRef (j := 0) (T := tU64) (dat p) (Ev.rfl' rfl) (Ev.rfl' rfl) rfl rfl (by rfl) subsT (by first | rfl | omega) hd0 | exact op_indexRef (j := 0) (T := tU64) (dat p) (Ev.rfl' rfl) (Ev.rfl' rfl) rfl rfl (by rfl) subsT (by first | rfl | omega) hd1 | exact op_indexRef (j := 0) (T := tU64) (dat p) (Ev.rfl' rfl) (Ev.rfl' rfl) rfl rfl (by rfl) subsT (by first | rfl | omega) (by assumption)) ?_
  refine JL_1 rfl (by first | exact op_loadRef (Ev.rfl' rfl) rfl rfl rfl | exact op_loadPtr (Ev.rfl' rfl) memT (by rfl) (by rfl) (by rfl)) ?_
  refine JL_1 rfl (op_gtr (Ev.rfl' rfl) (Ev.rfl' rfl)) ?_
  refine JL_1 rfl (op_move rfl) ?_
  (first | refine JL_i0 rfl rfl rfl (fun hg => (by have hg0 := hg; (try simp at hg); first | exact op_fieldPtr (k := 2) evG rfl rfl rfl rfl | exact op_fieldRefN (k := 2) evG rfl rfl rfl rfl nrmT)) ?_ | refine JL_i rfl rfl rfl (fun hp hg => (by have hpg := Bool.and_eq_true_iff.2 ⟨hp, hg⟩; have hg0 := hg; (try simp at hg); first | exact op_fieldPtr (k := 2) evG rfl rfl rfl rfl | exact op_fieldRefN (k := 2) evG rfl rfl rfl rfl nrmT)) ?_)
  (first | refine JL_i0 rfl rfl rfl (fun hg => (by have hg0 := hg; (try simp at hg); first | exact op_indexRef (j := 1) (T := tU64) (dat p) evG evG rfl rfl (by rfl) subsT (by first | rfl | omega) hd0 | exact op_indexRef (j := 1) (T := tU64) (dat p) evG evG rfl rfl (by rfl) subsT (by first | rfl | omega) hd1 | exact op_indexRef (j := 1) (T := tU64) (dat p) evG evG rfl rfl (by rfl) subsT (by first | rfl | omega) (by assumption))) ?_ | refine JL_i rfl rfl rfl (fun hp hg => (by have hpg := Bool.and_eq_true_iff.2 ⟨hp, hg⟩; have hg0 := hg; (try simp at hg); first | exact op_indexRef (j := 1) (T := tU64) (dat p) evG evG rfl rfl (by rfl) subsT (by first | rfl | omega) hd0 | exact op_indexRef (j := 1) (T := tU64) (dat p) evG evG rfl rfl (by rfl) subsT (by first | rfl | omega) hd1 | exact op_indexRef (j := 1) (T := tU64) (dat p) evG evG rfl rfl (by rfl) subsT (by first | rfl | omega) (by assumption))) ?_)
  (first | refine JL_i0 rfl rfl rfl (fun hg => (by have hg0 := hg; (try simp at hg); first | exact op_loadRef evG rfl rfl rfl | exact op_loadPtr evG memT (by rfl) (by rfl) (by rfl))) ?_ | refine JL_i rfl rfl rfl (fun hp hg => (by have hpg := Bool.and_eq_true_iff.2 ⟨hp, hg⟩; have hg0 := hg; (try simp at hg); first | exact op_loadRef evG rfl rfl rfl | exact op_loadPtr evG memT (by rfl) (by rfl) (by rfl))) ?_)
  (first | refine JL_i0 rfl rfl rfl (fun hg => (by have hg0 := hg; (try simp at hg); first | exact op_bits ev64g ev64g (by simp) (andNot_u64 _ _) | exact op_bits evG evG (by simp) rfl)) ?_ | refine JL_i rfl rfl rfl (fun hp hg => (by have hpg := Bool.and_eq_true_iff.2 ⟨hp, hg⟩; have hg0 := hg; (try simp at hg); first | exact op_bits ev64g ev64g (by simp) (andNot_u64 _ _) | exact op_bits evG evG (by simp) rfl)) ?_)
  (first | refine JL_i0 rfl rfl rfl (fun hg => (by have hg0 := hg; (try simp at hg); exact op_neq evG evG)) ?_ | refine JL_i rfl rfl rfl (fun hp hg => (by have hpg := Bool.and_eq_true_iff.2 ⟨hp, hg⟩; have hg0 := hg; (try simp at hg); exact op_neq evG evG)) ?_)
  refine JL_1 rfl (op_or (Ev.rfl' rfl) rfl (fun h => by first | exact SubL.rfl' | exact SubL.iteT (by first | (rw [h]; rfl) | (simp_all; done)) SubL.rfl')) ?_
  refine JL_1 rfl (op_move rfl) ?_
  (first | refine JL_i0 rfl rfl rfl (fun hg => (by have hg0 := hg; (try simp at hg); first | exact op_fieldPtr (k := 2) evG rfl rfl rfl rfl | exact op_fieldRefN (k := 2) evG rfl rfl rfl rfl nrmT)) ?_ | refine JL_i rfl rfl rfl (fun hp hg => (by have hpg := Bool.and_eq_true_iff.2 ⟨hp, hg⟩; have hg0 := hg; (try simp at hg); first | exact op_fieldPtr (k := 2) evG rfl rfl rfl rfl | exact op_fieldRefN (k := 2) evG rfl rfl rfl rfl nrmT)) ?_)
  (first | refine JL_i0 rfl rfl rfl (fun hg => (by have hg0 := hg; (try simp at hg); exact op_sliceRefL (T := tU64) (dat p) (l := 2) evG rfl rfl (Ev.rfl' rfl) rfl (by omega) rfl (by rfl) subzT)) ?_ | refine JL_i rfl rfl rfl (fun hp hg => (by have hpg := Bool.and_eq_true_iff.2 ⟨hp, hg⟩; have hg0 := hg; (try simp at hg); exact op_sliceRefL (T := tU64) (dat p) (l := 2) evG rfl rfl (Ev.rfl' rfl) rfl (by omega) rfl (by rfl) subzT)) ?_)
  (first | refine JL_i0 rfl rfl rfl (fun hg => (by have hg0 := hg; (try simp at hg); exact op_call Try.call64 (zeros_ok _) ⟨evS, trivial⟩)) ?_ | refine JL_i rfl rfl rfl (fun hp hg => (by have hpg := Bool.and_eq_true_iff.2 ⟨hp, hg⟩; have hg0 := hg; (try simp at hg); exact op_call Try.call64 (zeros_ok _) ⟨evS, trivial⟩)) ?_)
  (first | refine JL_i0 rfl rfl rfl (fun hg => (by have hg0 := hg; (try simp at hg); exact op_not evG)) ?_ | refine JL_i rfl rfl rfl (fun hp hg => (by have hpg := Bool.and_eq_true_iff.2 ⟨hp, hg⟩; have hg0 := hg; (try simp at hg); exact op_not evG)) ?_)
  refine JL_1 rfl (op_or (Ev.rfl' rfl) rfl (fun h => by first | exact SubL.rfl' | exact SubL.iteT (by first | (rw [h]; rfl) | (simp_all; done)) SubL.rfl')) ?_
  refine JL_nil ?_
  refine JQ_then ?_
  refine JC_cond (Ev.rfl' rfl) (fun h3 => ?_) (fun h3 => ?_)
  · have e : readH p = (Hd.nil, 14) := by
      unfold readH
      rw [if_pos hl, if_pos]
      rw [← zB_any]
      exact h3
    rw [e]
    refine JC_seq ?_
    refine JC_region ?_
    refine JL_1 rfl (op_buildN (qs := []) rfl rfl rfl rfl trivial (by rfl) nrmT) ?_
    refine JL_s0 (op_storeN (Ev.rfl' rfl) (Ev.rfl' rfl) cellsT replT nrmT (by rfl) (by rfl) (by rfl)) ?_
    refine JL_1 rfl (op_assign rfl) ?_
    refine JL_nil ?_
    refine JQ_then (JC_ret (JQ_then_ret ?_))
    exact JQ_ret (Bs := [IsHd Hd.nil, Is (.int .i64 14)]) Try.results15 ⟨⟨_, _, _, _, rfl, memT, rfl, .inr ⟨rfl, _, rfl, rfl, subT⟩⟩, ⟨⟨_, rfl, subT⟩, trivial⟩⟩ () SubL.rfl' (List.nil_sublist _)
  have h4 : (useB p || !zB p) = false := by rw [← zB_any]; exact h3
  have e : readH p = (⟨UV p.d0 - 1, p.d1.setWidth 32⟩, 0) := by
    unfold readH
    rw [if_pos hl, if_neg (by rw [h4]; simp)]
  have hr := use_rng (p := p) (by revert h4; cases useB p <;> simp)
  rw [e]
  clear h3
  refine JC_skip (JQ_then (JC_seq ?_))
  refine JC_region ?_
  refine JL_1 rfl (by first | exact op_fieldPtr (k := 2) (Ev.rfl' rfl) rfl rfl rfl rfl | exact op_fieldRefN (k := 2) (Ev.rfl' rfl) rfl rfl rfl rfl nrmT) ?_
  refine JL_1 rfl (by first | exact op_indexRef (j := 0) (T := tU64) (dat p) (Ev.rfl' rfl) (Ev.rfl' rfl) rfl rfl (by rfl) subsT (by first | rfl | omega) hd0 | exact op_indexRef (j := 0) (T := tU64) (dat p) (Ev.rfl' rfl) (Ev.rfl' rfl) rfl rfl (by rfl) subsT (by first | rfl | omega) hd1 | exact op_indexRef (j := 0) (T := tU64) (dat p) (Ev.rfl' rfl) (Ev.rfl' rfl) rfl rfl (by rfl) subsT (by first | rfl | omega) (by assumption)) ?_
  refine JL_1 rfl (by first | exact op_loadRef (Ev.rfl' rfl) rfl rfl rfl | exact op_loadPtr (Ev.rfl' rfl) memT (by rfl) (by rfl) (by rfl)) ?_
  refine JL_1 rfl (op_conv (Ev.rfl' rfl) rfl rfl convT) ?_
  refine JL_1 rfl (op_sub (Ev.rfl' rfl) (Ev.rfl' rfl) wrapT) ?_
  refine JL_1 rfl (by first | exact op_fieldPtr (k := 2) (Ev.rfl' rfl) rfl rfl rfl rfl | exact op_fieldRefN (k := 2) (Ev.rfl' rfl) rfl rfl rfl rfl nrmT) ?_
  refine JL_1 rfl (by first | exact op_indexRef (j := 1) (T := tU64) (dat p) (Ev.rfl' rfl) (Ev.rfl' rfl) rfl rfl (by rfl) subsT (by first | rfl | omega) hd0 | exact op_indexRef (j := 1) (T := tU64) (dat p) (Ev.rfl' rfl) (Ev.rfl' rfl) rfl rfl (by rfl) subsT (by first | rfl | omega) hd1 | exact op_indexRef (j := 1) (T := tU64) (dat p) (Ev.rfl' rfl) (Ev.rfl' rfl) rfl rfl (by rfl) subsT (by first | rfl | omega) (by assumption)) ?_
  refine JL_1 rfl (by first | exact op_loadRef (Ev.rfl' rfl) rfl rfl rfl | exact op_loadPtr (Ev.rfl' rfl) memT (by rfl) (by rfl) (by rfl)) ?_
  refine JL_1 rfl (op_conv (Ev.rfl' rfl) rfl rfl convT) ?_
  refine JL_1 rfl (op_buildN (qs := [(0, _), (1, _)]) rfl rfl rfl rfl ⟨⟨rfl, _, (Ev.rfl' rfl), cellsT⟩, ⟨⟨rfl, _, (Ev.rfl' rfl), cellsT⟩, trivial⟩⟩ (by rfl) nrmT) ?_
  refine JL_s0 (op_storeN (Ev.rfl' rfl) (Ev.rfl' rfl) cellsT replT nrmT (by rfl) (by rfl) (by rfl)) ?_
  refine JL_1 rfl (op_assign rfl) ?_
  refine JL_nil ?_
  refine JQ_then (JC_ret ?_)
  exact JQ_ret (Bs := [IsHd ⟨UV p.d0 - 1, p.d1.setWidth 32⟩, Is (.int .i64 0)]) Try.results15 ⟨⟨_, _, _, _, rfl, memT, rfl, .inr ⟨rfl, _, rfl, rfl, subT⟩⟩, ⟨⟨_, rfl, subT⟩, trivial⟩⟩ () SubL.rfl' (List.nil_sublist _)
theorem dat_at (p : Pg) (k : Nat) (h : k < 7) : (dat p)[k]? = some (datAt p k) := by
  unfold datAt
  rw [List.getD_eq_getElem?_getD, List.getElem?_eq_getElem (by simpa [dat] using h)]; rfl
theorem zB_iff {p : Pg} : zB p = true ↔ ∀ k : Nat, 2 ≤ k → k < 7 → datAt p k = 0#64 := by
  unfold zB
  simp only [Bool.and_eq_true, decide_eq_true_eq]
  constructor
  · rintro ⟨h2, h3, h4, h5, h6⟩ k hk hk7
    have : k = 2 ∨ k = 3 ∨ k = 4 ∨ k = 5 ∨ k = 6 := by omega
    rcases this with rfl | rfl | rfl | rfl | rfl <;> simp [datAt, dat, h2, h3, h4, h5, h6]
  · intro h
    exact ⟨h 2 (by omega) (by omega), h 3 (by omega) (by omega), h 4 (by omega) (by omega), h 5 (by omega) (by omega), h 6 (by omega) (by omega)⟩
theorem uv0_iff {w : Nat} {x : BitVec w} : UV x = 0 ↔ x = 0#w := by
  constructor
  · intro h
    have : UV x = UV (0#w) := by rw [h]; simp [UV]
    rw [UV_inj] at this; exact this
  · rintro rfl; simp [UV]
-- bodegaref19.ReadHeader: function 16
set_option maxHeartbeats 1000000 in
theorem ReadHeaderR_ok (p : Pg) : FnP Try.prog 16 [IsPg p] (IsTup [IsHd (readH p).1, Is (.int .i64 (readH p).2)]) := by
  have h0 := UV_nonneg p.d0
  have hd0 : (dat p)[0]? = some p.d0 := rfl
  have hd1 : (dat p)[1]? = some p.d1 := rfl
  refine FnP.enter Try.func16 Try.ntmps16 rfl rfl ?_
  intro c hX
  refine JC_seq ?_
  refine JC_region ?_
  (refine JL_n rfl (op_box (Ev.rfl' rfl) cellsT) ?_; intro i1)
  (refine JL_n rfl (op_allocN rfl nrmT rfl) ?_; intro i2)
  refine JL_1 rfl (op_assign rfl) ?_
  refine JL_nil ?_
  refine JQ_then (JC_seq (JC_seq ?_))
  refine JC_freezeB hX (b := i1) replT ?_
  refine JC_set 1 (IsRef (tPg.cells p)) rfl (SubL.fact memT) ?_
  refine JC_region ?_
  refine JL_1 rfl (by first | exact op_fieldPtr (k := 0) (Ev.rfl' rfl) rfl rfl rfl rfl | exact op_fieldRefN (k := 0) (Ev.rfl' rfl) rfl rfl rfl rfl nrmT) ?_
  refine JL_1 rfl (by first | exact op_loadRef (Ev.rfl' rfl) rfl rfl rfl | exact op_loadPtr (Ev.rfl' rfl) memT (by rfl) (by rfl) (by rfl)) ?_
  refine JL_1 rfl (op_call Try.call65 (isHeaderR_ok _) ⟨evS, trivial⟩) ?_
  refine JL_1 rfl (op_not (Ev.rfl' rfl)) ?_
  refine JL_nil ?_
  refine JQ_then ?_
  refine JC_cond (Ev.rfl' rfl) (fun h1 => ?_) (fun h1 => ?_)
  · have e : readH p = (Hd.nil, 1) := by unfold readH; rw [if_neg (by simpa using h1)]
    rw [e]
    refine JC_seq ?_
    refine JC_region ?_
    refine JL_1 rfl (op_buildN (qs := []) rfl rfl rfl rfl trivial (by rfl) nrmT) ?_
    refine JL_s0 (op_storeN (Ev.rfl' rfl) (Ev.rfl' rfl) cellsT replT nrmT (by rfl) (by rfl) (by rfl)) ?_
    refine JL_1 rfl (op_assign rfl) ?_
    refine JL_nil ?_
    refine JQ_then (JC_ret (JQ_then_ret ?_))
    exact JQ_ret (Bs := [IsHd Hd.nil, Is (.int .i64 1)]) Try.results16 ⟨⟨_, _, _, _, rfl, memT, rfl, .inr ⟨rfl, _, rfl, rfl, subT⟩⟩, ⟨⟨_, rfl, subT⟩, trivial⟩⟩ () SubL.rfl' (List.nil_sublist _)
  have hl : hdrB p.l = true := by simpa using h1
  refine JC_skip (JQ_then (JC_seq (JC_seq ?_)))
  refine JC_region ?_
  refine JL_1 rfl (op_assign rfl) ?_
  refine JL_nil ?_
  refine JQ_then (JC_block ?_)
  refine JC_loopP (fun k : Nat => 2 ≤ k ∧ k ≤ 7 ∧ ∀ j : Nat, 2 ≤ j → j < k → datAt p j = 0#64) (fun k => [(1, IsRef (tPg.cells p)), (2, Is (.pointer (some ⟨i2, 0, none⟩))), (4, Is (.int .i64 (k : Nat)))]) (fun _ => [blk i2 42 (tHd.cells Hd.nil)]) (fun k => 7 - k) 2 ⟨by omega, by omega, fun j hj => by omega⟩ esubT lessT ?_
  rintro k ⟨hk2, hk7, hs⟩
  refine JC_seq (JC_seq ?_)
  refine JC_region ?_
  refine JL_1 rfl (op_move rfl) ?_
  refine JL_1 rfl (op_lss (Ev.rfl' rfl) (Ev.rfl' rfl)) ?_
  refine JL_nil ?_
  refine JQ_then ?_
  refine JC_cond (Ev.rfl' rfl) (fun h4 => ?_) (fun h4 => ?_)
  · have hlt : k < 7 := by have := of_decide_eq_true h4; omega
    have hdk := dat_at p k hlt
    clear h4
    refine JC_skip (JQ_then (JC_seq (JC_block (JC_seq ?_))))
    refine JC_region ?_
    refine JL_1 rfl (op_move rfl) ?_
    refine JL_1 rfl (by first | exact op_fieldPtr (k := 2) (Ev.rfl' rfl) rfl rfl rfl rfl | exact op_fieldRefN (k := 2) (Ev.rfl' rfl) rfl rfl rfl rfl nrmT) ?_
    refine JL_1 rfl (by first | exact op_indexRef (j := k) (T := tU64) (dat p) (Ev.rfl' rfl) (Ev.rfl' rfl) rfl rfl (by rfl) subsT (by first | rfl | omega) hdk | exact op_indexRef (j := k) (T := tU64) (dat p) (Ev.rfl' rfl) (Ev.rfl' rfl) rfl rfl (by rfl) subsT (by first | rfl | omega) (by assumption)) ?_
    refine JL_1 rfl (by first | exact op_loadRef (Ev.rfl' rfl) rfl rfl rfl | exact op_loadPtr (Ev.rfl' rfl) memT (by rfl) (by rfl) (by rfl)) ?_
    refine JL_1 rfl (op_neq (Ev.rfl' rfl) (Ev.rfl' rfl)) ?_
    refine JL_nil ?_
    refine JQ_then ?_
    refine JC_cond (Ev.rfl' rfl) (fun h6 => ?_) (fun h6 => ?_)
    · have h7 : ¬ datAt p k = 0#64 := by rw [← uv0_iff]; simpa using h6
      have e : readH p = (Hd.nil, 14) := by
        unfold readH
        rw [if_pos hl, if_pos]
        have : zB p = false := by
          cases hz : zB p with
          | false => rfl
          | true => exact absurd (zB_iff.1 hz k hk2 hlt) h7
        rw [this]; simp
      rw [e]
      refine JC_seq ?_
      refine JC_region ?_
      refine JL_1 rfl (op_buildN (qs := []) rfl rfl rfl rfl trivial (by rfl) nrmT) ?_
      refine JL_s0 (op_storeN (Ev.rfl' rfl) (Ev.rfl' rfl) cellsT replT nrmT (by rfl) (by rfl) (by rfl)) ?_
      refine JL_1 rfl (op_assign rfl) ?_
      refine JL_nil ?_
      refine JQ_then (JC_ret (JQ_block_ret (JQ_then_ret (JQ_then_ret (JQ_block_ret (JQ_then_ret ?_))))))
      exact JQ_ret (Bs := [IsHd Hd.nil, Is (.int .i64 14)]) Try.results16 ⟨⟨_, _, _, _, rfl, memT, rfl, .inr ⟨rfl, _, rfl, rfl, subT⟩⟩, ⟨⟨_, rfl, subT⟩, trivial⟩⟩ () SubL.rfl' (List.nil_sublist _)
    have h7 : datAt p k = 0#64 := by rw [← uv0_iff]; simpa using h6
    clear h6
    refine JC_skip (JQ_block (JQ_then ?_))
    refine JC_region ?_
    refine JL_1 rfl (op_move rfl) ?_
    refine JL_1 rfl (op_add (Ev.rfl' rfl) (Ev.rfl' rfl) wrapT) ?_
    refine JL_1 rfl (op_assign rfl) ?_
    refine JL_nil ?_
    exact JQ_roundP (k + 1) ⟨by omega, by omega, fun j hj hjk => by
      by_cases hjk2 : j = k
      · subst hjk2; exact h7
      · exact hs j hj (by omega)⟩ (by omega) esubT lessT
  have hk : k = 7 := by have := of_decide_eq_false h4; omega
  subst hk
  have hz : zB p = true := zB_iff.2 hs
  clear h4
  refine JC_exit (JQ_then_exit (JQ_then_exit (JQ_hit (JQ_then (JC_seq (JC_seq ?_))))))
  refine JC_region ?_
  refine JL_1 rfl (by first | exact op_fieldPtr (k := 2) (Ev.rfl' rfl) rfl rfl rfl rfl | exact op_fieldRefN (k := 2) (Ev.rfl' rfl) rfl rfl rfl rfl nrmT) ?_
  refine JL_1 rfl (by first | exact op_indexRef (j := 0) (T := tU64) (dat p) (Ev.rfl' rfl) (Ev.rfl' rfl) rfl rfl (by rfl) subsT (by first | rfl | omega) hd0 | exact op_indexRef (j := 0) (T := tU64) (dat p) (Ev.rfl' rfl) (Ev.rfl' rfl) rfl rfl (by rfl) subsT (by first | rfl | omega) hd1 | exact op_indexRef (j := 0) (T := tU64) (dat p) (Ev.rfl' rfl) (Ev.rfl' rfl) rfl rfl (by rfl) subsT (by first | rfl | omega) (by assumption)) ?_
  refine JL_1 rfl (by first | exact op_loadRef (Ev.rfl' rfl) rfl rfl rfl | exact op_loadPtr (Ev.rfl' rfl) memT (by rfl) (by rfl) (by rfl)) ?_
  refine JL_1 rfl (op_gtr (Ev.rfl' rfl) (Ev.rfl' rfl)) ?_
  refine JL_1 rfl (op_move rfl) ?_
  (first | refine JL_i0 rfl rfl rfl (fun hg => (by have hg0 := hg; (try simp at hg); first | exact op_fieldPtr (k := 2) evG rfl rfl rfl rfl | exact op_fieldRefN (k := 2) evG rfl rfl rfl rfl nrmT)) ?_ | refine JL_i rfl rfl rfl (fun hp hg => (by have hpg := Bool.and_eq_true_iff.2 ⟨hp, hg⟩; have hg0 := hg; (try simp at hg); first | exact op_fieldPtr (k := 2) evG rfl rfl rfl rfl | exact op_fieldRefN (k := 2) evG rfl rfl rfl rfl nrmT)) ?_)
  (first | refine JL_i0 rfl rfl rfl (fun hg => (by have hg0 := hg; (try simp at hg); first | exact op_indexRef (j := 1) (T := tU64) (dat p) evG evG rfl rfl (by rfl) subsT (by first | rfl | omega) hd0 | exact op_indexRef (j := 1) (T := tU64) (dat p) evG evG rfl rfl (by rfl) subsT (by first | rfl | omega) hd1 | exact op_indexRef (j := 1) (T := tU64) (dat p) evG evG rfl rfl (by rfl) subsT (by first | rfl | omega) (by assumption))) ?_ | refine JL_i rfl rfl rfl (fun hp hg => (by have hpg := Bool.and_eq_true_iff.2 ⟨hp, hg⟩; have hg0 := hg; (try simp at hg); first | exact op_indexRef (j := 1) (T := tU64) (dat p) evG evG rfl rfl (by rfl) subsT (by first | rfl | omega) hd0 | exact op_indexRef (j := 1) (T := tU64) (dat p) evG evG rfl rfl (by rfl) subsT (by first | rfl | omega) hd1 | exact op_indexRef (j := 1) (T := tU64) (dat p) evG evG rfl rfl (by rfl) subsT (by first | rfl | omega) (by assumption))) ?_)
  (first | refine JL_i0 rfl rfl rfl (fun hg => (by have hg0 := hg; (try simp at hg); first | exact op_loadRef evG rfl rfl rfl | exact op_loadPtr evG memT (by rfl) (by rfl) (by rfl))) ?_ | refine JL_i rfl rfl rfl (fun hp hg => (by have hpg := Bool.and_eq_true_iff.2 ⟨hp, hg⟩; have hg0 := hg; (try simp at hg); first | exact op_loadRef evG rfl rfl rfl | exact op_loadPtr evG memT (by rfl) (by rfl) (by rfl))) ?_)
  (first | refine JL_i0 rfl rfl rfl (fun hg => (by have hg0 := hg; (try simp at hg); first | exact op_bits ev64g ev64g (by simp) (andNot_u64 _ _) | exact op_bits evG evG (by simp) rfl)) ?_ | refine JL_i rfl rfl rfl (fun hp hg => (by have hpg := Bool.and_eq_true_iff.2 ⟨hp, hg⟩; have hg0 := hg; (try simp at hg); first | exact op_bits ev64g ev64g (by simp) (andNot_u64 _ _) | exact op_bits evG evG (by simp) rfl)) ?_)
  (first | refine JL_i0 rfl rfl rfl (fun hg => (by have hg0 := hg; (try simp at hg); exact op_neq evG evG)) ?_ | refine JL_i rfl rfl rfl (fun hp hg => (by have hpg := Bool.and_eq_true_iff.2 ⟨hp, hg⟩; have hg0 := hg; (try simp at hg); exact op_neq evG evG)) ?_)
  refine JL_1 rfl (op_or (Ev.rfl' rfl) rfl (fun h => by first | exact SubL.rfl' | exact SubL.iteT (by first | (rw [h]; rfl) | (simp_all; done)) SubL.rfl')) ?_
  refine JL_nil ?_
  refine JQ_then ?_
  refine JC_cond (Ev.rfl' rfl) (fun h8 => ?_) (fun h8 => ?_)
  · have h9 : useB p = true := h8
    have e : readH p = (Hd.nil, 14) := by unfold readH; rw [if_pos hl, if_pos (by rw [h9]; simp)]
    rw [e]
    refine JC_seq ?_
    refine JC_region ?_
    refine JL_1 rfl (op_buildN (qs := []) rfl rfl rfl rfl trivial (by rfl) nrmT) ?_
    refine JL_s0 (op_storeN (Ev.rfl' rfl) (Ev.rfl' rfl) cellsT replT nrmT (by rfl) (by rfl) (by rfl)) ?_
    refine JL_1 rfl (op_assign rfl) ?_
    refine JL_nil ?_
    refine JQ_then (JC_ret (JQ_then_ret ?_))
    exact JQ_ret (Bs := [IsHd Hd.nil, Is (.int .i64 14)]) Try.results16 ⟨⟨_, _, _, _, rfl, memT, rfl, .inr ⟨rfl, _, rfl, rfl, subT⟩⟩, ⟨⟨_, rfl, subT⟩, trivial⟩⟩ () SubL.rfl' (List.nil_sublist _)
  have h9 : useB p = false := h8
  have hr := use_rng h9
  have e : readH p = (⟨UV p.d0 - 1, p.d1.setWidth 32⟩, 0) := by unfold readH; rw [if_pos hl, if_neg (by rw [h9, hz]; simp)]
  rw [e]
  clear h8
  refine JC_skip (JQ_then (JC_seq ?_))
  refine JC_region ?_
  refine JL_1 rfl (by first | exact op_fieldPtr (k := 2) (Ev.rfl' rfl) rfl rfl rfl rfl | exact op_fieldRefN (k := 2) (Ev.rfl' rfl) rfl rfl rfl rfl nrmT) ?_
  refine JL_1 rfl (by first | exact op_indexRef (j := 0) (T := tU64) (dat p) (Ev.rfl' rfl) (Ev.rfl' rfl) rfl rfl (by rfl) subsT (by first | rfl | omega) hd0 | exact op_indexRef (j := 0) (T := tU64) (dat p) (Ev.rfl' rfl) (Ev.rfl' rfl) rfl rfl (by rfl) subsT (by first | rfl | omega) hd1 | exact op_indexRef (j := 0) (T := tU64) (dat p) (Ev.rfl' rfl) (Ev.rfl' rfl) rfl rfl (by rfl) subsT (by first | rfl | omega) (by assumption)) ?_
  refine JL_1 rfl (by first | exact op_loadRef (Ev.rfl' rfl) rfl rfl rfl | exact op_loadPtr (Ev.rfl' rfl) memT (by rfl) (by rfl) (by rfl)) ?_
  refine JL_1 rfl (op_conv (Ev.rfl' rfl) rfl rfl convT) ?_
  refine JL_1 rfl (op_sub (Ev.rfl' rfl) (Ev.rfl' rfl) wrapT) ?_
  refine JL_1 rfl (by first | exact op_fieldPtr (k := 2) (Ev.rfl' rfl) rfl rfl rfl rfl | exact op_fieldRefN (k := 2) (Ev.rfl' rfl) rfl rfl rfl rfl nrmT) ?_
  refine JL_1 rfl (by first | exact op_indexRef (j := 1) (T := tU64) (dat p) (Ev.rfl' rfl) (Ev.rfl' rfl) rfl rfl (by rfl) subsT (by first | rfl | omega) hd0 | exact op_indexRef (j := 1) (T := tU64) (dat p) (Ev.rfl' rfl) (Ev.rfl' rfl) rfl rfl (by rfl) subsT (by first | rfl | omega) hd1 | exact op_indexRef (j := 1) (T := tU64) (dat p) (Ev.rfl' rfl) (Ev.rfl' rfl) rfl rfl (by rfl) subsT (by first | rfl | omega) (by assumption)) ?_
  refine JL_1 rfl (by first | exact op_loadRef (Ev.rfl' rfl) rfl rfl rfl | exact op_loadPtr (Ev.rfl' rfl) memT (by rfl) (by rfl) (by rfl)) ?_
  refine JL_1 rfl (op_conv (Ev.rfl' rfl) rfl rfl convT) ?_
  refine JL_1 rfl (op_buildN (qs := [(0, _), (1, _)]) rfl rfl rfl rfl ⟨⟨rfl, _, (Ev.rfl' rfl), cellsT⟩, ⟨⟨rfl, _, (Ev.rfl' rfl), cellsT⟩, trivial⟩⟩ (by rfl) nrmT) ?_
  refine JL_s0 (op_storeN (Ev.rfl' rfl) (Ev.rfl' rfl) cellsT replT nrmT (by rfl) (by rfl) (by rfl)) ?_
  refine JL_1 rfl (op_assign rfl) ?_
  refine JL_nil ?_
  refine JQ_then (JC_ret ?_)
  exact JQ_ret (Bs := [IsHd ⟨UV p.d0 - 1, p.d1.setWidth 32⟩, Is (.int .i64 0)]) Try.results16 ⟨⟨_, _, _, _, rfl, memT, rfl, .inr ⟨rfl, _, rfl, rfl, subT⟩⟩, ⟨⟨_, rfl, subT⟩, trivial⟩⟩ () SubL.rfl' (List.nil_sublist _)
def hdBad (p : Pg) (h : Hd) : Bool := (!hdrB p.l || decide (h.owner < -1)) || decide (h.owner ≥ 6) || UV (h.used &&& ~~~BitVec.ofInt 32 65534) != 0
def hdPut (p : Pg) (h : Hd) : Pg := { Pg.nil with l := p.l, h := p.h, d0 := BitVec.ofInt 64 (h.owner + 1), d1 := h.used.setWidth 64 }
def writeH (p : Pg) (h : Hd) : Pg × Int := if hdBad p h = true then (Pg.nil, 1) else (hdPut p h, 0)
theorem hd_rng {p : Pg} {h : Hd} (e : hdBad p h = false) : -1 ≤ h.owner ∧ h.owner < 6 := by
  unfold hdBad at e
  simp at e
  omega
-- segment.WriteHeader: function 22
set_option maxHeartbeats 1000000 in
theorem WriteHeader_ok (p : Pg) (h : Hd) : FnP Try.prog 22 [IsPg p, IsHd h] (IsTup [IsPg (writeH p h).1, Is (.int .i64 (writeH p h).2)]) := by
  refine FnP.enter Try.func22 Try.ntmps22 rfl rfl ?_
  intro c hX
  refine JC_seq ?_
  refine JC_region ?_
  (refine JL_n rfl (op_box (Ev.rfl' rfl) cellsT) ?_; intro i2)
  (refine JL_n rfl (op_box (Ev.rfl' rfl) cellsT) ?_; intro i3)
  (refine JL_n rfl (op_allocN rfl nrmT rfl) ?_; intro i4)
  refine JL_1 rfl (op_assign rfl) ?_
  refine JL_nil ?_
  refine JQ_then (JC_seq (JC_seq ?_))
  refine JC_region ?_
  refine JL_1 rfl (by first | exact op_fieldPtr (k := 0) (Ev.rfl' rfl) rfl rfl rfl rfl | exact op_fieldRefN (k := 0) (Ev.rfl' rfl) rfl rfl rfl rfl nrmT) ?_
  refine JL_1 rfl (by first | exact op_loadRef (Ev.rfl' rfl) rfl rfl rfl | exact op_loadPtr (Ev.rfl' rfl) memT (by rfl) (by rfl) (by rfl)) ?_
  refine JL_1 rfl (op_call Try.call63 (isHeaderLine_ok _) ⟨evS, trivial⟩) ?_
  refine JL_1 rfl (op_not (Ev.rfl' rfl)) ?_
  refine JL_1 rfl (op_move rfl) ?_
  (first | refine JL_i0 rfl rfl rfl (fun hg => (by have hg0 := hg; (try simp at hg); first | exact op_fieldPtr (k := 0) evG rfl rfl rfl rfl | exact op_fieldRefN (k := 0) evG rfl rfl rfl rfl nrmT)) ?_ | refine JL_i rfl rfl rfl (fun hp hg => (by have hpg := Bool.and_eq_true_iff.2 ⟨hp, hg⟩; have hg0 := hg; (try simp at hg); first | exact op_fieldPtr (k := 0) evG rfl rfl rfl rfl | exact op_fieldRefN (k := 0) evG rfl rfl rfl rfl nrmT)) ?_)
  (first | refine JL_i0 rfl rfl rfl (fun hg => (by have hg0 := hg; (try simp at hg); first | exact op_loadRef evG rfl rfl rfl | exact op_loadPtr evG memT (by rfl) (by rfl) (by rfl))) ?_ | refine JL_i rfl rfl rfl (fun hp hg => (by have hpg := Bool.and_eq_true_iff.2 ⟨hp, hg⟩; have hg0 := hg; (try simp at hg); first | exact op_loadRef evG rfl rfl rfl | exact op_loadPtr evG memT (by rfl) (by rfl) (by rfl))) ?_)
  (first | refine JL_i0 rfl rfl rfl (fun hg => (by have hg0 := hg; (try simp at hg); exact op_lss evG evG)) ?_ | refine JL_i rfl rfl rfl (fun hp hg => (by have hpg := Bool.and_eq_true_iff.2 ⟨hp, hg⟩; have hg0 := hg; (try simp at hg); exact op_lss evG evG)) ?_)
  refine JL_1 rfl (op_or (Ev.rfl' rfl) rfl (fun h => by first | exact SubL.rfl' | exact SubL.iteT (by first | (rw [h]; rfl) | (simp_all; done)) SubL.rfl')) ?_
  refine JL_1 rfl (op_move rfl) ?_
  (first | refine JL_i0 rfl rfl rfl (fun hg => (by have hg0 := hg; (try simp at hg); first | exact op_fieldPtr (k := 0) evG rfl rfl rfl rfl | exact op_fieldRefN (k := 0) evG rfl rfl rfl rfl nrmT)) ?_ | refine JL_i rfl rfl rfl (fun hp hg => (by have hpg := Bool.and_eq_true_iff.2 ⟨hp, hg⟩; have hg0 := hg; (try simp at hg); first | exact op_fieldPtr (k := 0) evG rfl rfl rfl rfl | exact op_fieldRefN (k := 0) evG rfl rfl rfl rfl nrmT)) ?_)
  (first | refine JL_i0 rfl rfl rfl (fun hg => (by have hg0 := hg; (try simp at hg); first | exact op_loadRef evG rfl rfl rfl | exact op_loadPtr evG memT (by rfl) (by rfl) (by rfl))) ?_ | refine JL_i rfl rfl rfl (fun hp hg => (by have hpg := Bool.and_eq_true_iff.2 ⟨hp, hg⟩; have hg0 := hg; (try simp at hg); first | exact op_loadRef evG rfl rfl rfl | exact op_loadPtr evG memT (by rfl) (by rfl) (by rfl))) ?_)
  (first | refine JL_i0 rfl rfl rfl (fun hg => (by have hg0 := hg; (try simp at hg); exact op_geq evG evG)) ?_ | refine JL_i rfl rfl rfl (fun hp hg => (by have hpg := Bool.and_eq_true_iff.2 ⟨hp, hg⟩; have hg0 := hg; (try simp at hg); exact op_geq evG evG)) ?_)
  refine JL_1 rfl (op_or (Ev.rfl' rfl) rfl (fun h => by first | exact SubL.rfl' | exact SubL.iteT (by first | (rw [h]; rfl) | (simp_all; done)) SubL.rfl')) ?_
  refine JL_1 rfl (op_move rfl) ?_
  (first | refine JL_i0 rfl rfl rfl (fun hg => (by have hg0 := hg; (try simp at hg); first | exact op_fieldPtr (k := 1) evG rfl rfl rfl rfl | exact op_fieldRefN (k := 1) evG rfl rfl rfl rfl nrmT)) ?_ | refine JL_i rfl rfl rfl (fun hp hg => (by have hpg := Bool.and_eq_true_iff.2 ⟨hp, hg⟩; have hg0 := hg; (try simp at hg); first | exact op_fieldPtr (k := 1) evG rfl rfl rfl rfl | exact op_fieldRefN (k := 1) evG rfl rfl rfl rfl nrmT)) ?_)
  (first | refine JL_i0 rfl rfl rfl (fun hg => (by have hg0 := hg; (try simp at hg); first | exact op_loadRef evG rfl rfl rfl | exact op_loadPtr evG memT (by rfl) (by rfl) (by rfl))) ?_ | refine JL_i rfl rfl rfl (fun hp hg => (by have hpg := Bool.and_eq_true_iff.2 ⟨hp, hg⟩; have hg0 := hg; (try simp at hg); first | exact op_loadRef evG rfl rfl rfl | exact op_loadPtr evG memT (by rfl) (by rfl) (by rfl))) ?_)
  (first | refine JL_i0 rfl rfl rfl (fun hg => (by have hg0 := hg; (try simp at hg); first | exact op_bits ev32g ev32g (by simp) (andNot_u32 _ _) | exact op_bits evG evG (by simp) rfl)) ?_ | refine JL_i rfl rfl rfl (fun hp hg => (by have hpg := Bool.and_eq_true_iff.2 ⟨hp, hg⟩; have hg0 := hg; (try simp at hg); first | exact op_bits ev32g ev32g (by simp) (andNot_u32 _ _) | exact op_bits evG evG (by simp) rfl)) ?_)
  (first | refine JL_i0 rfl rfl rfl (fun hg => (by have hg0 := hg; (try simp at hg); exact op_neq evG evG)) ?_ | refine JL_i rfl rfl rfl (fun hp hg => (by have hpg := Bool.and_eq_true_iff.2 ⟨hp, hg⟩; have hg0 := hg; (try simp at hg); exact op_neq evG evG)) ?_)
  refine JL_1 rfl (op_or (Ev.rfl' rfl) rfl (fun h => by first | exact SubL.rfl' | exact SubL.iteT (by first | (rw [h]; rfl) | (simp_all; done)) SubL.rfl')) ?_
  refine JL_nil ?_
  refine JQ_then ?_
  refine JC_cond (Ev.rfl' rfl) (fun h1 => ?_) (fun h1 => ?_)
  · have e : writeH p h = (Pg.nil, 1) := by unfold writeH; rw [if_pos]; exact h1
    rw [e]
    refine JC_seq ?_
    refine JC_region ?_
    refine JL_1 rfl (op_buildN (qs := []) rfl rfl rfl rfl trivial (by rfl) nrmT) ?_
    refine JL_s0 (op_storeN (Ev.rfl' rfl) (Ev.rfl' rfl) cellsT replT nrmT (by rfl) (by rfl) (by rfl)) ?_
    refine JL_1 rfl (op_assign rfl) ?_
    refine JL_nil ?_
    refine JQ_then (JC_ret (JQ_then_ret ?_))
    exact JQ_ret (Bs := [IsPg Pg.nil, Is (.int .i64 1)]) Try.results22 ⟨⟨_, _, _, _, rfl, memT, rfl, .inr ⟨rfl, _, rfl, rfl, subT⟩⟩, ⟨⟨_, rfl, subT⟩, trivial⟩⟩ () SubL.rfl' (List.nil_sublist _)
  have h2 : hdBad p h = false := h1
  have hr := hd_rng h2
  have e : writeH p h = (hdPut p h, 0) := by unfold writeH; rw [if_neg (by rw [h2]; simp)]
  rw [e]
  clear h1
  refine JC_skip (JQ_then (JC_seq ?_))
  refine JC_region ?_
  refine JL_1 rfl (by first | exact op_fieldPtr (k := 0) (Ev.rfl' rfl) rfl rfl rfl rfl | exact op_fieldRefN (k := 0) (Ev.rfl' rfl) rfl rfl rfl rfl nrmT) ?_
  refine JL_1 rfl (by first | exact op_loadRef (Ev.rfl' rfl) rfl rfl rfl | exact op_loadPtr (Ev.rfl' rfl) memT (by rfl) (by rfl) (by rfl)) ?_
  refine JL_1 rfl (op_add (Ev.rfl' rfl) (Ev.rfl' rfl) wrapT) ?_
  refine JL_1 rfl (op_conv (Ev.rfl' rfl) rfl rfl convT) ?_
  refine JL_set 30 (Is (.int .u64 (UV (BitVec.ofInt 64 (h.owner + 1))))) rfl (SubL.eq (congrArg Is (u64lit (by omega)))) ?_
  refine JL_1 rfl (by first | exact op_fieldPtr (k := 1) (Ev.rfl' rfl) rfl rfl rfl rfl | exact op_fieldRefN (k := 1) (Ev.rfl' rfl) rfl rfl rfl rfl nrmT) ?_
  refine JL_1 rfl (by first | exact op_loadRef (Ev.rfl' rfl) rfl rfl rfl | exact op_loadPtr (Ev.rfl' rfl) memT (by rfl) (by rfl) (by rfl)) ?_
  refine JL_1 rfl (op_conv (Ev.rfl' rfl) rfl rfl convT) ?_
  refine JL_1 rfl (op_buildArr (size := 1) (qs := [(0, _), (1, _)]) rfl rfl rfl rfl ⟨⟨rfl, _, (Ev.rfl' rfl), cellsT⟩, ⟨⟨rfl, _, (Ev.rfl' rfl), cellsT⟩, trivial⟩⟩ (by rfl) nrmT) ?_
  refine JL_1 rfl (by first | exact op_fieldPtr (k := 2) (Ev.rfl' rfl) rfl rfl rfl rfl | exact op_fieldRefN (k := 2) (Ev.rfl' rfl) rfl rfl rfl rfl nrmT) ?_
  refine JL_s0 (op_storeN (Ev.rfl' rfl) (Ev.rfl' rfl) cellsT replT nrmT (by rfl) (by rfl) (by rfl)) ?_
  refine JL_nil ?_
  refine JQ_then (JC_seq ?_)
  refine JC_region ?_
  refine JL_1 rfl (by first | exact op_loadRefsN (n := 9) (Ev.rfl' rfl) rfl rfl rfl (by rfl) nrmT | exact op_loadPtrsN (n := 9) (Ev.rfl' rfl) memT (by rfl) (by rfl) (by rfl) (by rfl) nrmT) ?_
  refine JL_s0 (op_storeN (Ev.rfl' rfl) (Ev.rfl' rfl) cellsT replT nrmT (by rfl) (by rfl) (by rfl)) ?_
  refine JL_1 rfl (op_assign rfl) ?_
  refine JL_nil ?_
  refine JQ_then (JC_ret ?_)
  exact JQ_ret (Bs := [IsPg (hdPut p h), Is (.int .i64 0)]) Try.results22 ⟨⟨_, _, _, _, rfl, memT, rfl, .inr ⟨rfl, _, rfl, rfl, subT⟩⟩, ⟨⟨_, rfl, subT⟩, trivial⟩⟩ () SubL.rfl' (List.nil_sublist _)
-- bodegaref19.WriteHeader: function 23
set_option maxHeartbeats 1000000 in
theorem WriteHeaderR_ok (p : Pg) (h : Hd) : FnP Try.prog 23 [IsPg p, IsHd h] (IsTup [IsPg (writeH p h).1, Is (.int .i64 (writeH p h).2)]) := by
  refine FnP.enter Try.func23 Try.ntmps23 rfl rfl ?_
  intro c hX
  refine JC_seq ?_
  refine JC_region ?_
  (refine JL_n rfl (op_box (Ev.rfl' rfl) cellsT) ?_; intro i2)
  (refine JL_n rfl (op_box (Ev.rfl' rfl) cellsT) ?_; intro i3)
  (refine JL_n rfl (op_allocN rfl nrmT rfl) ?_; intro i4)
  refine JL_1 rfl (op_assign rfl) ?_
  refine JL_nil ?_
  refine JQ_then (JC_seq (JC_seq ?_))
  refine JC_region ?_
  refine JL_1 rfl (by first | exact op_fieldPtr (k := 0) (Ev.rfl' rfl) rfl rfl rfl rfl | exact op_fieldRefN (k := 0) (Ev.rfl' rfl) rfl rfl rfl rfl nrmT) ?_
  refine JL_1 rfl (by first | exact op_loadRef (Ev.rfl' rfl) rfl rfl rfl | exact op_loadPtr (Ev.rfl' rfl) memT (by rfl) (by rfl) (by rfl)) ?_
  refine JL_1 rfl (op_call Try.call65 (isHeaderR_ok _) ⟨evS, trivial⟩) ?_
  refine JL_1 rfl (op_not (Ev.rfl' rfl)) ?_
  refine JL_1 rfl (op_move rfl) ?_
  (first | refine JL_i0 rfl rfl rfl (fun hg => (by have hg0 := hg; (try simp at hg); first | exact op_fieldPtr (k := 0) evG rfl rfl rfl rfl | exact op_fieldRefN (k := 0) evG rfl rfl rfl rfl nrmT)) ?_ | refine JL_i rfl rfl rfl (fun hp hg => (by have hpg := Bool.and_eq_true_iff.2 ⟨hp, hg⟩; have hg0 := hg; (try simp at hg); first | exact op_fieldPtr (k := 0) evG rfl rfl rfl rfl | exact op_fieldRefN (k := 0) evG rfl rfl rfl rfl nrmT)) ?_)
  (first | refine JL_i0 rfl rfl rfl (fun hg => (by have hg0 := hg; (try simp at hg); first | exact op_loadRef evG rfl rfl rfl | exact op_loadPtr evG memT (by rfl) (by rfl) (by rfl))) ?_ | refine JL_i rfl rfl rfl (fun hp hg => (by have hpg := Bool.and_eq_true_iff.2 ⟨hp, hg⟩; have hg0 := hg; (try simp at hg); first | exact op_loadRef evG rfl rfl rfl | exact op_loadPtr evG memT (by rfl) (by rfl) (by rfl))) ?_)
  (first | refine JL_i0 rfl rfl rfl (fun hg => (by have hg0 := hg; (try simp at hg); exact op_lss evG evG)) ?_ | refine JL_i rfl rfl rfl (fun hp hg => (by have hpg := Bool.and_eq_true_iff.2 ⟨hp, hg⟩; have hg0 := hg; (try simp at hg); exact op_lss evG evG)) ?_)
  refine JL_1 rfl (op_or (Ev.rfl' rfl) rfl (fun h => by first | exact SubL.rfl' | exact SubL.iteT (by first | (rw [h]; rfl) | (simp_all; done)) SubL.rfl')) ?_
  refine JL_1 rfl (op_move rfl) ?_
  (first | refine JL_i0 rfl rfl rfl (fun hg => (by have hg0 := hg; (try simp at hg); first | exact op_fieldPtr (k := 0) evG rfl rfl rfl rfl | exact op_fieldRefN (k := 0) evG rfl rfl rfl rfl nrmT)) ?_ | refine JL_i rfl rfl rfl (fun hp hg => (by have hpg := Bool.and_eq_true_iff.2 ⟨hp, hg⟩; have hg0 := hg; (try simp at hg); first | exact op_fieldPtr (k := 0) evG rfl rfl rfl rfl | exact op_fieldRefN (k := 0) evG rfl rfl rfl rfl nrmT)) ?_)
  (first | refine JL_i0 rfl rfl rfl (fun hg => (by have hg0 := hg; (try simp at hg); first | exact op_loadRef evG rfl rfl rfl | exact op_loadPtr evG memT (by rfl) (by rfl) (by rfl))) ?_ | refine JL_i rfl rfl rfl (fun hp hg => (by have hpg := Bool.and_eq_true_iff.2 ⟨hp, hg⟩; have hg0 := hg; (try simp at hg); first | exact op_loadRef evG rfl rfl rfl | exact op_loadPtr evG memT (by rfl) (by rfl) (by rfl))) ?_)
  (first | refine JL_i0 rfl rfl rfl (fun hg => (by have hg0 := hg; (try simp at hg); exact op_geq evG evG)) ?_ | refine JL_i rfl rfl rfl (fun hp hg => (by have hpg := Bool.and_eq_true_iff.2 ⟨hp, hg⟩; have hg0 := hg; (try simp at hg); exact op_geq evG evG)) ?_)
  refine JL_1 rfl (op_or (Ev.rfl' rfl) rfl (fun h => by first | exact SubL.rfl' | exact SubL.iteT (by first | (rw [h]; rfl) | (simp_all; done)) SubL.rfl')) ?_
  refine JL_1 rfl (op_move rfl) ?_
  (first | refine JL_i0 rfl rfl rfl (fun hg => (by have hg0 := hg; (try simp at hg); first | exact op_fieldPtr (k := 1) evG rfl rfl rfl rfl | exact op_fieldRefN (k := 1) evG rfl rfl rfl rfl nrmT)) ?_ | refine JL_i rfl rfl rfl (fun hp hg => (by have hpg := Bool.and_eq_true_iff.2 ⟨hp, hg⟩; have hg0 := hg; (try simp at hg); first | exact op_fieldPtr (k := 1) evG rfl rfl rfl rfl | exact op_fieldRefN (k := 1) evG rfl rfl rfl rfl nrmT)) ?_)
  (first | refine JL_i0 rfl rfl rfl (fun hg => (by have hg0 := hg; (try simp at hg); first | exact op_loadRef evG rfl rfl rfl | exact op_loadPtr evG memT (by rfl) (by rfl) (by rfl))) ?_ | refine JL_i rfl rfl rfl (fun hp hg => (by have hpg := Bool.and_eq_true_iff.2 ⟨hp, hg⟩; have hg0 := hg; (try simp at hg); first | exact op_loadRef evG rfl rfl rfl | exact op_loadPtr evG memT (by rfl) (by rfl) (by rfl))) ?_)
  (first | refine JL_i0 rfl rfl rfl (fun hg => (by have hg0 := hg; (try simp at hg); first | exact op_bits ev32g ev32g (by simp) (andNot_u32 _ _) | exact op_bits evG evG (by simp) rfl)) ?_ | refine JL_i rfl rfl rfl (fun hp hg => (by have hpg := Bool.and_eq_true_iff.2 ⟨hp, hg⟩; have hg0 := hg; (try simp at hg); first | exact op_bits ev32g ev32g (by simp) (andNot_u32 _ _) | exact op_bits evG evG (by simp) rfl)) ?_)
  (first | refine JL_i0 rfl rfl rfl (fun hg => (by have hg0 := hg; (try simp at hg); exact op_neq evG evG)) ?_ | refine JL_i rfl rfl rfl (fun hp hg => (by have hpg := Bool.and_eq_true_iff.2 ⟨hp, hg⟩; have hg0 := hg; (try simp at hg); exact op_neq evG evG)) ?_)
  refine JL_1 rfl (op_or (Ev.rfl' rfl) rfl (fun h => by first | exact SubL.rfl' | exact SubL.iteT (by first | (rw [h]; rfl) | (simp_all; done)) SubL.rfl')) ?_
  refine JL_nil ?_
  refine JQ_then ?_
  refine JC_cond (Ev.rfl' rfl) (fun h1 => ?_) (fun h1 => ?_)
  · have e : writeH p h = (Pg.nil, 1) := by unfold writeH; rw [if_pos]; exact h1
    rw [e]
    refine JC_seq ?_
    refine JC_region ?_
    refine JL_1 rfl (op_buildN (qs := []) rfl rfl rfl rfl trivial (by rfl) nrmT) ?_
    refine JL_s0 (op_storeN (Ev.rfl' rfl) (Ev.rfl' rfl) cellsT replT nrmT (by rfl) (by rfl) (by rfl)) ?_
    refine JL_1 rfl (op_assign rfl) ?_
    refine JL_nil ?_
    refine JQ_then (JC_ret (JQ_then_ret ?_))
    exact JQ_ret (Bs := [IsPg Pg.nil, Is (.int .i64 1)]) Try.results23 ⟨⟨_, _, _, _, rfl, memT, rfl, .inr ⟨rfl, _, rfl, rfl, subT⟩⟩, ⟨⟨_, rfl, subT⟩, trivial⟩⟩ () SubL.rfl' (List.nil_sublist _)
  have h2 : hdBad p h = false := h1
  have hr := hd_rng h2
  have e : writeH p h = (hdPut p h, 0) := by unfold writeH; rw [if_neg (by rw [h2]; simp)]
  rw [e]
  clear h1
  refine JC_skip (JQ_then (JC_seq ?_))
  refine JC_region ?_
  refine JL_1 rfl (by first | exact op_fieldPtr (k := 0) (Ev.rfl' rfl) rfl rfl rfl rfl | exact op_fieldRefN (k := 0) (Ev.rfl' rfl) rfl rfl rfl rfl nrmT) ?_
  refine JL_1 rfl (by first | exact op_loadRef (Ev.rfl' rfl) rfl rfl rfl | exact op_loadPtr (Ev.rfl' rfl) memT (by rfl) (by rfl) (by rfl)) ?_
  refine JL_1 rfl (by first | exact op_fieldPtr (k := 1) (Ev.rfl' rfl) rfl rfl rfl rfl | exact op_fieldRefN (k := 1) (Ev.rfl' rfl) rfl rfl rfl rfl nrmT) ?_
  refine JL_1 rfl (by first | exact op_loadRef (Ev.rfl' rfl) rfl rfl rfl | exact op_loadPtr (Ev.rfl' rfl) memT (by rfl) (by rfl) (by rfl)) ?_
  refine JL_1 rfl (op_buildN (qs := [(0, _), (1, _)]) rfl rfl rfl rfl ⟨⟨rfl, _, (Ev.rfl' rfl), cellsT⟩, ⟨⟨rfl, _, (Ev.rfl' rfl), cellsT⟩, trivial⟩⟩ (by rfl) nrmT) ?_
  (refine JL_n rfl (op_allocN rfl nrmT rfl) ?_; intro i6)
  refine JL_s0 (op_storeN (Ev.rfl' rfl) (Ev.rfl' rfl) cellsT replT nrmT (by rfl) (by rfl) (by rfl)) ?_
  refine JL_nil ?_
  refine JQ_then (JC_seq ?_)
  refine JC_region ?_
  refine JL_1 rfl (by first | exact op_fieldPtr (k := 0) (Ev.rfl' rfl) rfl rfl rfl rfl | exact op_fieldRefN (k := 0) (Ev.rfl' rfl) rfl rfl rfl rfl nrmT) ?_
  refine JL_1 rfl (by first | exact op_loadRef (Ev.rfl' rfl) rfl rfl rfl | exact op_loadPtr (Ev.rfl' rfl) memT (by rfl) (by rfl) (by rfl)) ?_
  refine JL_1 rfl (op_add (Ev.rfl' rfl) (Ev.rfl' rfl) wrapT) ?_
  refine JL_1 rfl (op_conv (Ev.rfl' rfl) rfl rfl convT) ?_
  refine JL_set 36 (Is (.int .u64 (UV (BitVec.ofInt 64 (h.owner + 1))))) rfl (SubL.eq (congrArg Is (u64lit (by omega)))) ?_
  refine JL_1 rfl (by first | exact op_fieldPtr (k := 2) (Ev.rfl' rfl) rfl rfl rfl rfl | exact op_fieldRefN (k := 2) (Ev.rfl' rfl) rfl rfl rfl rfl nrmT) ?_
  refine JL_1 rfl (op_indexArr (k := 0) (sz := 1) (Ev.rfl' rfl) (Ev.rfl' rfl) rfl rfl idxT (by first | decide | omega)) ?_
  refine JL_s0 (op_storeN (Ev.rfl' rfl) (Ev.rfl' rfl) cellsT replT nrmT (by rfl) (by rfl) (by rfl)) ?_
  refine JL_nil ?_
  refine JQ_then (JC_seq ?_)
  refine JC_region ?_
  refine JL_1 rfl (by first | exact op_fieldPtr (k := 1) (Ev.rfl' rfl) rfl rfl rfl rfl | exact op_fieldRefN (k := 1) (Ev.rfl' rfl) rfl rfl rfl rfl nrmT) ?_
  refine JL_1 rfl (by first | exact op_loadRef (Ev.rfl' rfl) rfl rfl rfl | exact op_loadPtr (Ev.rfl' rfl) memT (by rfl) (by rfl) (by rfl)) ?_
  refine JL_1 rfl (op_conv (Ev.rfl' rfl) rfl rfl convT) ?_
  refine JL_1 rfl (by first | exact op_fieldPtr (k := 2) (Ev.rfl' rfl) rfl rfl rfl rfl | exact op_fieldRefN (k := 2) (Ev.rfl' rfl) rfl rfl rfl rfl nrmT) ?_
  refine JL_1 rfl (op_indexArr (k := 1) (sz := 1) (Ev.rfl' rfl) (Ev.rfl' rfl) rfl rfl idxT (by first | decide | omega)) ?_
  refine JL_s0 (op_storeN (Ev.rfl' rfl) (Ev.rfl' rfl) cellsT replT nrmT (by rfl) (by rfl) (by rfl)) ?_
  refine JL_nil ?_
  refine JQ_then (JC_seq ?_)
  refine JC_region ?_
  refine JL_1 rfl (by first | exact op_loadRefsN (n := 9) (Ev.rfl' rfl) rfl rfl rfl (by rfl) nrmT | exact op_loadPtrsN (n := 9) (Ev.rfl' rfl) memT (by rfl) (by rfl) (by rfl) (by rfl) nrmT) ?_
  refine JL_s0 (op_storeN (Ev.rfl' rfl) (Ev.rfl' rfl) cellsT replT nrmT (by rfl) (by rfl) (by rfl)) ?_
  refine JL_1 rfl (op_assign rfl) ?_
  refine JL_nil ?_
  refine JQ_then (JC_ret ?_)
  exact JQ_ret (Bs := [IsPg (hdPut p h), Is (.int .i64 0)]) Try.results23 ⟨⟨_, _, _, _, rfl, memT, rfl, .inr ⟨rfl, _, rfl, rfl, subT⟩⟩, ⟨⟨_, rfl, subT⟩, trivial⟩⟩ () SubL.rfl' (List.nil_sublist _)
end Go.Proofs.Ytpfojangcgffkaa

/- Two halves of a word. Own work. -/
namespace Go.Proofs.Ytpfojangcgffkaa
open Go.RowKit
set_option linter.unusedVariables false
set_option linter.unusedSimpArgs false
@[reducible] def packW (x : BitVec 32) (y : BitVec 64) : BitVec 64 := x.setWidth 64 ||| y <<< 32
theorem pack_disj (x : BitVec 32) (y : BitVec 64) : x.setWidth 64 &&& y <<< 32 = 0#64 := by
  apply BitVec.eq_of_getLsbD_eq
  intro i hi
  simp only [BitVec.getLsbD_and, BitVec.getLsbD_setWidth, BitVec.getLsbD_shiftLeft]
  rcases Nat.lt_or_ge i 32 with h | h
  · simp [h]
  · rw [BitVec.getLsbD_of_ge x i h]; simp
theorem add_or (x : BitVec 32) (y : BitVec 64) : x.setWidth 64 + y <<< 32 = packW x y := BitVec.add_eq_or_of_and_eq_zero _ _ (pack_disj x y)
theorem pack_low (x : BitVec 32) (y : BitVec 64) : (packW x y).setWidth 32 = x := by
  apply BitVec.eq_of_getLsbD_eq
  intro i hi
  simp only [packW, BitVec.getLsbD_setWidth, BitVec.getLsbD_or, BitVec.getLsbD_shiftLeft]
  simp [hi, show i < 64 by omega]
theorem pack_high (x z : BitVec 32) : packW x (z.setWidth 64) >>> 32 = z.setWidth 64 := by
  apply BitVec.eq_of_getLsbD_eq
  intro i hi
  simp only [packW, BitVec.getLsbD_ushiftRight, BitVec.getLsbD_setWidth, BitVec.getLsbD_or, BitVec.getLsbD_shiftLeft]
  rw [BitVec.getLsbD_of_ge x (32 + i) (by omega)]
  rcases Nat.lt_or_ge i 32 with h | h
  · simp [hi, h, show 32 + i < 64 by omega, show 32 + i - 32 = i by omega]
  · rw [BitVec.getLsbD_of_ge z i h]; simp; omega
theorem setW_setW (z : BitVec 32) : (z.setWidth 64).setWidth 32 = z := by
  apply BitVec.eq_of_toNat_eq
  simp only [BitVec.toNat_setWidth]
  have := z.isLt
  omega
end Go.Proofs.Ytpfojangcgffkaa

/- Contracts: node pages read and written, by the program and by the reference. Printed by geng.py. Own work. -/
namespace Go.Proofs.Ytpfojangcgffkaa
open Go.RowKit
set_option linter.unusedVariables false
set_option linter.unusedSimpArgs false
set_option maxRecDepth 100000
/-- The retired entry of a word. -/
def retE (w : BitVec 64) : Re := if w = 0#64 then Re.nil else ⟨unpackP (w.setWidth 32), (w >>> 32).setWidth 32⟩
def retB (w : BitVec 64) : Bool := decide (w = 0#64) || validP (unpackP (w.setWidth 32))
theorem ret_0 {w : BitVec 64} (h : w = 0#64) : retE w = Re.nil ∧ retB w = true := by
  refine ⟨by unfold retE; rw [if_pos h], by unfold retB; rw [decide_eq_true h]; rfl⟩
theorem ret_1 {w : BitVec 64} (h : ¬ w = 0#64) : retE w = ⟨unpackP (w.setWidth 32), (w >>> 32).setWidth 32⟩ ∧ retB w = validP (unpackP (w.setWidth 32)) := by
  refine ⟨by unfold retE; rw [if_neg h], by unfold retB; rw [decide_eq_false h]; rfl⟩
-- segment.unpackRetired: function 67
theorem unpackRetired_ok (w : BitVec 64) : FnP Try.prog 67 [Is (.int .u64 (UV w))] (IsTup [IsRe (retE w), Is (.bool (retB w))]) := by
  refine FnP.enter Try.func67 Try.ntmps67 rfl rfl ?_
  intro c hX
  refine JC_seq ?_
  refine JC_region ?_
  (refine JL_n rfl (op_allocN rfl nrmT rfl) ?_; intro i2)
  refine JL_1 rfl (op_assign rfl) ?_
  refine JL_nil ?_
  refine JQ_then (JC_seq (JC_seq ?_))
  refine JC_region ?_
  refine JL_1 rfl (op_move rfl) ?_
  refine JL_1 rfl (op_eql (Ev.rfl' rfl) (Ev.rfl' rfl)) ?_
  refine JL_nil ?_
  refine JQ_then ?_
  refine JC_cond (Ev.rfl' rfl) (fun h1 => ?_) (fun h1 => ?_)
  · have h : w = 0#64 := by rw [← uv0_iff]; simpa using h1
    rw [(ret_0 h).1, (ret_0 h).2]
    refine JC_seq ?_
    refine JC_region ?_
    refine JL_1 rfl (op_buildN (qs := []) rfl rfl rfl rfl trivial (by rfl) nrmT) ?_
    refine JL_s0 (op_storeN (Ev.rfl' rfl) (Ev.rfl' rfl) cellsT replT nrmT (by rfl) (by rfl) (by rfl)) ?_
    refine JL_1 rfl (op_assign rfl) ?_
    refine JL_nil ?_
    refine JQ_then (JC_ret (JQ_then_ret ?_))
    exact JQ_ret (Bs := [IsRe Re.nil, Is (.bool true)]) Try.results67 ⟨⟨_, _, _, _, rfl, memT, rfl, .inr ⟨rfl, _, rfl, rfl, subT⟩⟩, ⟨⟨_, rfl, subT⟩, trivial⟩⟩ () SubL.rfl' (List.nil_sublist _)
  have h : ¬ w = 0#64 := by rw [← uv0_iff]; simpa using h1
  rw [(ret_1 h).1, (ret_1 h).2]
  refine JC_skip (JQ_then (JC_seq ?_))
  refine JC_region ?_
  refine JL_1 rfl (op_move rfl) ?_
  refine JL_1 rfl (op_conv (Ev.rfl' rfl) rfl rfl convT) ?_
  refine JL_1 rfl (op_call Try.call110 (Unpack_ok _) ⟨evS, trivial⟩) ?_
  refine JL_1 rfl (op_move rfl) ?_
  refine JL_1 rfl (by first | exact op_shrU (k := 32) ev64 (Ev.rfl' rfl) (by first | omega | exact UV_nonneg _) idxT | exact op_shr (Ev.rfl' rfl) (Ev.rfl' rfl) (by first | omega | exact UV_nonneg _) rfl) ?_
  refine JL_1 rfl (op_conv (Ev.rfl' rfl) rfl rfl convT) ?_
  refine JL_1 rfl (op_buildN (qs := [(0, _), (1, _)]) rfl rfl rfl rfl ⟨⟨rfl, _, (Ev.rfl' rfl), cellsT⟩, ⟨⟨rfl, _, (Ev.rfl' rfl), cellsT⟩, trivial⟩⟩ (by rfl) nrmT) ?_
  (refine JL_n rfl (op_allocN rfl nrmT rfl) ?_; intro i4)
  refine JL_s0 (op_storeN (Ev.rfl' rfl) (Ev.rfl' rfl) cellsT replT nrmT (by rfl) (by rfl) (by rfl)) ?_
  refine JL_nil ?_
  refine JQ_then (JC_seq ?_)
  refine JC_dr rfl (by kernel_rfl) ?_
  refine JD_front (it := blk i2 _ _) (by repeat (first | exact Drop1.here _ _ | apply Drop1.next)) ?_
  refine JD_stretchG (its := [_]) 6 (by kernel_rfl) ?_
  refine JW_1 (by first | exact op_loadRefsN (n := 3) (Ev.rfl' rfl) rfl rfl rfl (by rfl) nrmT | exact op_loadPtrsN (n := 3) (Ev.rfl' rfl) memT (by rfl) (by rfl) (by rfl) (by rfl) nrmT) ?_
  refine JW_1 (by first | exact op_fieldPtr (k := 0) (Ev.rfl' rfl) rfl rfl rfl rfl | exact op_fieldRefN (k := 0) (Ev.rfl' rfl) rfl rfl rfl rfl nrmT) ?_
  refine JW_1 (by first | exact op_loadRefsN (n := 2) (Ev.rfl' rfl) rfl rfl rfl (by rfl) nrmT | exact op_loadPtrsN (n := 2) (Ev.rfl' rfl) memT (by rfl) (by rfl) (by rfl) (by rfl) nrmT) ?_
  refine JW_1 (op_call Try.call72 (ValidP_ok _) ⟨evS, trivial⟩) ?_
  refine JW_ghost (s := 19) rfl rfl rfl (by kernel_rfl) (fun c' => by exact op_store (Ev.rfl' rfl) (Ev.rfl' rfl) cellsT replT (by rfl) (by rfl) (by rfl)) ?_
  refine JW_1 (op_assign rfl) ?_
  refine ⟨rfl, ?_⟩
  intro _
  refine JD_end ?_
  refine JQ_then (JC_ret ?_)
  exact JQ_ret (Bs := [IsRe ⟨unpackP (w.setWidth 32), (w >>> 32).setWidth 32⟩, Is (.bool (validP (unpackP (w.setWidth 32))))]) Try.results67 ⟨⟨_, _, _, _, rfl, memT, rfl, .inr ⟨rfl, _, rfl, rfl, subT⟩⟩, ⟨⟨_, rfl, subT⟩, trivial⟩⟩ () SubL.rfl' (List.nil_sublist _)
def pinV (p : Pg) : Bool := decide (UV p.d0 > 0)
def epV (p : Pg) : BitVec 32 := if UV p.d0 > 0 then (p.d0 - 1#64).setWidth 32 else 0#32
def reK (k j : Nat) (r : Re) : Re := if j < k then r else Re.nil
def ndK (p : Pg) (k : Nat) : Nd := ⟨pinV p, epV p, p.d1.setWidth 32, UV p.d2, reK k 0 (retE p.d3), reK k 1 (retE p.d4), reK k 2 (retE p.d5), reK k 3 (retE p.d6)⟩
def okN (p : Pg) (k : Nat) : Bool := match k with
  | 0 => true
  | 1 => retB p.d3
  | 2 => retB p.d3 && retB p.d4
  | 3 => retB p.d3 && retB p.d4 && retB p.d5
  | _ => retB p.d3 && retB p.d4 && retB p.d5 && retB p.d6
def badN (p : Pg) : Bool := decide (UV p.d0 > 4294967296) || decide (UV p.d1 > 511) || decide (UV p.d2 > 59)
def readN (p : Pg) : Nd × Int := if ownB p.l = true then (if badN p = true then (Nd.nil, 14) else if okN p 4 = true then (ndK p 4, 0) else (Nd.nil, 14)) else (Nd.nil, 1)
theorem bad_rng {p : Pg} (h : badN p = false) : UV p.d0 ≤ 4294967296 ∧ UV p.d1 ≤ 511 ∧ UV p.d2 ≤ 59 := by
  unfold badN at h
  simp at h
  omega
theorem readN_1 {p : Pg} (h : ownB p.l = false) : readN p = (Nd.nil, 1) := by unfold readN; rw [if_neg (by rw [h]; simp)]
theorem readN_b {p : Pg} (h : ownB p.l = true) (h1 : badN p = true) : readN p = (Nd.nil, 14) := by unfold readN; rw [if_pos h, if_pos h1]
theorem readN_x {p : Pg} (h : ownB p.l = true) (h1 : badN p = false) (h2 : okN p 4 = false) : readN p = (Nd.nil, 14) := by unfold readN; rw [if_pos h, if_neg (by rw [h1]; simp), if_neg (by rw [h2]; simp)]
theorem readN_0 {p : Pg} (h : ownB p.l = true) (h1 : badN p = false) (h2 : okN p 4 = true) : readN p = (ndK p 4, 0) := by unfold readN; rw [if_pos h, if_neg (by rw [h1]; simp), if_pos h2]
theorem okN_bad0 {p : Pg} (h : retB p.d3 = false) : okN p 4 = false := by unfold okN; simp [h]
theorem okN_add0 {p : Pg} (h0 : okN p 0 = true) (h : retB p.d3 = true) : okN p 1 = true := by unfold okN at h0 ⊢; simp_all
theorem okN_bad1 {p : Pg} (h : retB p.d4 = false) : okN p 4 = false := by unfold okN; simp [h]
theorem okN_add1 {p : Pg} (h0 : okN p 1 = true) (h : retB p.d4 = true) : okN p 2 = true := by unfold okN at h0 ⊢; simp_all
theorem okN_bad2 {p : Pg} (h : retB p.d5 = false) : okN p 4 = false := by unfold okN; simp [h]
theorem okN_add2 {p : Pg} (h0 : okN p 2 = true) (h : retB p.d5 = true) : okN p 3 = true := by unfold okN at h0 ⊢; simp_all
theorem okN_bad3 {p : Pg} (h : retB p.d6 = false) : okN p 4 = false := by unfold okN; simp [h]
theorem okN_add3 {p : Pg} (h0 : okN p 3 = true) (h : retB p.d6 = true) : okN p 4 = true := by unfold okN at h0 ⊢; simp_all
-- segment.ReadNode: function 17
set_option maxHeartbeats 8000000 in
theorem ReadNode_ok (p : Pg) : FnP Try.prog 17 [IsPg p] (IsTup [IsNd (readN p).1, Is (.int .i64 (readN p).2)]) := by
  have z2 := UV_nonneg p.d2
  refine FnP.enter Try.func17 Try.ntmps17 rfl rfl ?_
  intro c hX
  refine JC_seq ?_
  refine JC_region ?_
  (refine JL_n rfl (op_box (Ev.rfl' rfl) cellsT) ?_; intro i1)
  (refine JL_n rfl (op_allocN rfl nrmT rfl) ?_; intro i2)
  refine JL_1 rfl (op_assign rfl) ?_
  refine JL_nil ?_
  refine JQ_then (JC_seq (JC_seq ?_))
  refine JC_region ?_
  refine JL_1 rfl (by first | exact op_fieldPtr (k := 0) (Ev.rfl' rfl) rfl rfl rfl rfl | exact op_fieldRefN (k := 0) (Ev.rfl' rfl) rfl rfl rfl rfl nrmT) ?_
  refine JL_1 rfl (by first | exact op_loadRef (Ev.rfl' rfl) rfl rfl rfl | exact op_loadPtr (Ev.rfl' rfl) memT (by rfl) (by rfl) (by rfl)) ?_
  refine JL_1 rfl (op_call Try.call66 (isNodeLine_ok _) ⟨evS, trivial⟩) ?_
  refine JL_1 rfl (op_not (Ev.rfl' rfl)) ?_
  refine JL_nil ?_
  refine JQ_then ?_
  refine JC_cond (Ev.rfl' rfl) (fun h1 => ?_) (fun h1 => ?_)
  · have hl : ownB p.l = false := by simpa using h1
    rw [readN_1 hl]
    refine JC_seq ?_
    refine JC_region ?_
    refine JL_1 rfl (op_buildN (qs := []) rfl rfl rfl rfl trivial (by rfl) nrmT) ?_
    refine JL_s0 (op_storeN (Ev.rfl' rfl) (Ev.rfl' rfl) cellsT replT nrmT (by rfl) (by rfl) (by rfl)) ?_
    refine JL_1 rfl (op_assign rfl) ?_
    refine JL_nil ?_
    refine JQ_then (JC_ret (JQ_then_ret ?_))
    exact JQ_ret (Bs := [IsNd Nd.nil, Is (.int .i64 1)]) Try.results17 ⟨⟨_, _, _, _, rfl, memT, rfl, .inr ⟨rfl, _, rfl, rfl, subT⟩⟩, ⟨⟨_, rfl, subT⟩, trivial⟩⟩ () SubL.rfl' (List.nil_sublist _)
  have hl : ownB p.l = true := by simpa using h1
  refine JC_skip (JQ_then (JC_seq (JC_seq ?_)))
  refine JC_region ?_
  refine JL_1 rfl (by first | exact op_fieldPtr (k := 2) (Ev.rfl' rfl) rfl rfl rfl rfl | exact op_fieldRefN (k := 2) (Ev.rfl' rfl) rfl rfl rfl rfl nrmT) ?_
  refine JL_1 rfl (op_indexArr (k := 0) (sz := 1) (Ev.rfl' rfl) (Ev.rfl' rfl) rfl rfl idxT (by first | decide | omega)) ?_
  refine JL_1 rfl (by first | exact op_loadRef (Ev.rfl' rfl) rfl rfl rfl | exact op_loadPtr (Ev.rfl' rfl) memT (by rfl) (by rfl) (by rfl)) ?_
  refine JL_1 rfl (op_gtr (Ev.rfl' rfl) (Ev.rfl' rfl)) ?_
  refine JL_1 rfl (op_move rfl) ?_
  (first | refine JL_i0 rfl rfl rfl (fun hg => (by have hg0 := hg; (try simp at hg); first | exact op_fieldPtr (k := 2) evG rfl rfl rfl rfl | exact op_fieldRefN (k := 2) evG rfl rfl rfl rfl nrmT)) ?_ | refine JL_i rfl rfl rfl (fun hp hg => (by have hpg := Bool.and_eq_true_iff.2 ⟨hp, hg⟩; have hg0 := hg; (try simp at hg); first | exact op_fieldPtr (k := 2) evG rfl rfl rfl rfl | exact op_fieldRefN (k := 2) evG rfl rfl rfl rfl nrmT)) ?_)
  (first | refine JL_i0 rfl rfl rfl (fun hg => (by have hg0 := hg; (try simp at hg); exact op_indexArr (k := 1) (sz := 1) evG evG rfl rfl idxT (by first | decide | omega))) ?_ | refine JL_i rfl rfl rfl (fun hp hg => (by have hpg := Bool.and_eq_true_iff.2 ⟨hp, hg⟩; have hg0 := hg; (try simp at hg); exact op_indexArr (k := 1) (sz := 1) evG evG rfl rfl idxT (by first | decide | omega))) ?_)
  (first | refine JL_i0 rfl rfl rfl (fun hg => (by have hg0 := hg; (try simp at hg); first | exact op_loadRef evG rfl rfl rfl | exact op_loadPtr evG memT (by rfl) (by rfl) (by rfl))) ?_ | refine JL_i rfl rfl rfl (fun hp hg => (by have hpg := Bool.and_eq_true_iff.2 ⟨hp, hg⟩; have hg0 := hg; (try simp at hg); first | exact op_loadRef evG rfl rfl rfl | exact op_loadPtr evG memT (by rfl) (by rfl) (by rfl))) ?_)
  (first | refine JL_i0 rfl rfl rfl (fun hg => (by have hg0 := hg; (try simp at hg); exact op_geq evG evG)) ?_ | refine JL_i rfl rfl rfl (fun hp hg => (by have hpg := Bool.and_eq_true_iff.2 ⟨hp, hg⟩; have hg0 := hg; (try simp at hg); exact op_geq evG evG)) ?_)
  refine JL_1 rfl (op_or (Ev.rfl' rfl) rfl (fun h => by first | exact SubL.rfl' | exact SubL.iteT (by first | (rw [h]; rfl) | (simp_all; done)) SubL.rfl')) ?_
  refine JL_1 rfl (op_move rfl) ?_
  (first | refine JL_i0 rfl rfl rfl (fun hg => (by have hg0 := hg; (try simp at hg); first | exact op_fieldPtr (k := 2) evG rfl rfl rfl rfl | exact op_fieldRefN (k := 2) evG rfl rfl rfl rfl nrmT)) ?_ | refine JL_i rfl rfl rfl (fun hp hg => (by have hpg := Bool.and_eq_true_iff.2 ⟨hp, hg⟩; have hg0 := hg; (try simp at hg); first | exact op_fieldPtr (k := 2) evG rfl rfl rfl rfl | exact op_fieldRefN (k := 2) evG rfl rfl rfl rfl nrmT)) ?_)
  (first | refine JL_i0 rfl rfl rfl (fun hg => (by have hg0 := hg; (try simp at hg); exact op_indexArr (k := 2) (sz := 1) evG evG rfl rfl idxT (by first | decide | omega))) ?_ | refine JL_i rfl rfl rfl (fun hp hg => (by have hpg := Bool.and_eq_true_iff.2 ⟨hp, hg⟩; have hg0 := hg; (try simp at hg); exact op_indexArr (k := 2) (sz := 1) evG evG rfl rfl idxT (by first | decide | omega))) ?_)
  (first | refine JL_i0 rfl rfl rfl (fun hg => (by have hg0 := hg; (try simp at hg); first | exact op_loadRef evG rfl rfl rfl | exact op_loadPtr evG memT (by rfl) (by rfl) (by rfl))) ?_ | refine JL_i rfl rfl rfl (fun hp hg => (by have hpg := Bool.and_eq_true_iff.2 ⟨hp, hg⟩; have hg0 := hg; (try simp at hg); first | exact op_loadRef evG rfl rfl rfl | exact op_loadPtr evG memT (by rfl) (by rfl) (by rfl))) ?_)
  (first | refine JL_i0 rfl rfl rfl (fun hg => (by have hg0 := hg; (try simp at hg); exact op_gtr evG evG)) ?_ | refine JL_i rfl rfl rfl (fun hp hg => (by have hpg := Bool.and_eq_true_iff.2 ⟨hp, hg⟩; have hg0 := hg; (try simp at hg); exact op_gtr evG evG)) ?_)
  refine JL_1 rfl (op_or (Ev.rfl' rfl) rfl (fun h => by first | exact SubL.rfl' | exact SubL.iteT (by first | (rw [h]; rfl) | (simp_all; done)) SubL.rfl')) ?_
  refine JL_nil ?_
  refine JQ_then ?_
  refine JC_cond (Ev.rfl' rfl) (fun h3 => ?_) (fun h3 => ?_)
  · have hb : badN p = true := by rw [← h3]; unfold badN; congr 2
    rw [readN_b hl hb]
    refine JC_seq ?_
    refine JC_region ?_
    refine JL_1 rfl (op_buildN (qs := []) rfl rfl rfl rfl trivial (by rfl) nrmT) ?_
    refine JL_s0 (op_storeN (Ev.rfl' rfl) (Ev.rfl' rfl) cellsT replT nrmT (by rfl) (by rfl) (by rfl)) ?_
    refine JL_1 rfl (op_assign rfl) ?_
    refine JL_nil ?_
    refine JQ_then (JC_ret (JQ_then_ret ?_))
    exact JQ_ret (Bs := [IsNd Nd.nil, Is (.int .i64 14)]) Try.results17 ⟨⟨_, _, _, _, rfl, memT, rfl, .inr ⟨rfl, _, rfl, rfl, subT⟩⟩, ⟨⟨_, rfl, subT⟩, trivial⟩⟩ () SubL.rfl' (List.nil_sublist _)
  have hb : badN p = false := by rw [← h3]; unfold badN; congr 2
  clear h3
  obtain ⟨b0, b1, b2⟩ := bad_rng hb
  refine JC_skip (JQ_then (JC_seq ?_))
  refine JC_region ?_
  refine JL_1 rfl (by first | exact op_fieldPtr (k := 2) (Ev.rfl' rfl) rfl rfl rfl rfl | exact op_fieldRefN (k := 2) (Ev.rfl' rfl) rfl rfl rfl rfl nrmT) ?_
  refine JL_1 rfl (op_indexArr (k := 1) (sz := 1) (Ev.rfl' rfl) (Ev.rfl' rfl) rfl rfl idxT (by first | decide | omega)) ?_
  refine JL_1 rfl (by first | exact op_loadRef (Ev.rfl' rfl) rfl rfl rfl | exact op_loadPtr (Ev.rfl' rfl) memT (by rfl) (by rfl) (by rfl)) ?_
  refine JL_1 rfl (op_conv (Ev.rfl' rfl) rfl rfl convT) ?_
  refine JL_1 rfl (by first | exact op_fieldPtr (k := 2) (Ev.rfl' rfl) rfl rfl rfl rfl | exact op_fieldRefN (k := 2) (Ev.rfl' rfl) rfl rfl rfl rfl nrmT) ?_
  refine JL_1 rfl (op_indexArr (k := 2) (sz := 1) (Ev.rfl' rfl) (Ev.rfl' rfl) rfl rfl idxT (by first | decide | omega)) ?_
  refine JL_1 rfl (by first | exact op_loadRef (Ev.rfl' rfl) rfl rfl rfl | exact op_loadPtr (Ev.rfl' rfl) memT (by rfl) (by rfl) (by rfl)) ?_
  refine JL_1 rfl (op_conv (Ev.rfl' rfl) rfl rfl convT) ?_
  refine JL_1 rfl (op_buildN (qs := [(2, _), (3, _)]) rfl rfl rfl rfl ⟨⟨rfl, _, (Ev.rfl' rfl), cellsT⟩, ⟨⟨rfl, _, (Ev.rfl' rfl), cellsT⟩, trivial⟩⟩ (by rfl) nrmT) ?_
  (refine JL_n rfl (op_allocN rfl nrmT rfl) ?_; intro i4)
  refine JL_s0 (op_storeN (Ev.rfl' rfl) (Ev.rfl' rfl) cellsT replT nrmT (by rfl) (by rfl) (by rfl)) ?_
  refine JL_nil ?_
  refine JQ_then (JC_seq (JC_seq ?_))
  refine JC_region ?_
  refine JL_1 rfl (by first | exact op_fieldPtr (k := 2) (Ev.rfl' rfl) rfl rfl rfl rfl | exact op_fieldRefN (k := 2) (Ev.rfl' rfl) rfl rfl rfl rfl nrmT) ?_
  refine JL_1 rfl (op_indexArr (k := 0) (sz := 1) (Ev.rfl' rfl) (Ev.rfl' rfl) rfl rfl idxT (by first | decide | omega)) ?_
  refine JL_1 rfl (by first | exact op_loadRef (Ev.rfl' rfl) rfl rfl rfl | exact op_loadPtr (Ev.rfl' rfl) memT (by rfl) (by rfl) (by rfl)) ?_
  refine JL_1 rfl (op_gtr (Ev.rfl' rfl) (Ev.rfl' rfl)) ?_
  refine JL_nil ?_
  refine JQ_then ?_
  refine JC_cutT (fun _ : Unit => True) (fun _ => [(1, Is (.pointer (some ⟨i1, 0, none⟩))), (2, Is (.pointer (some ⟨i2, 0, none⟩))), (4, Is (.pointer (some ⟨i4, 0, none⟩)))]) (fun _ => [blk i4 35 (tNd.cells (ndK p 0)), blk i2 35 (tNd.cells Nd.nil), blk i1 25 (tPg.cells p)]) ?_ ?_
  rotate_left
  focus
    refine JC_cond (Ev.rfl' rfl) (fun h6 => ?_) (fun h6 => ?_)
    · have h7 : UV p.d0 > 0 := of_decide_eq_true h6
      have e1 : pinV p = true := h6
      have e2 : epV p = (p.d0 - 1#64).setWidth 32 := by unfold epV; rw [if_pos h7]
      clear h6
      refine JC_dr rfl (by kernel_rfl) ?_
      refine JD_front (it := blk i4 _ _) (by repeat (first | exact Drop1.here _ _ | apply Drop1.next)) ?_
      refine JD_stretchG (its := [_]) 9 (by kernel_rfl) ?_
      refine JW_1 (by first | exact op_fieldPtr (k := 2) (Ev.rfl' rfl) rfl rfl rfl rfl | exact op_fieldRefN (k := 2) (Ev.rfl' rfl) rfl rfl rfl rfl nrmT) ?_
      refine JW_1 (op_indexArr (k := 0) (sz := 1) (Ev.rfl' rfl) (Ev.rfl' rfl) rfl rfl idxT (by first | decide | omega)) ?_
      refine JW_1 (by first | exact op_loadRef (Ev.rfl' rfl) rfl rfl rfl | exact op_loadPtr (Ev.rfl' rfl) memT (by rfl) (by rfl) (by rfl)) ?_
      refine JW_1 (by first | exact op_binU ev64 ev64 (sub_u64 _ _ _) | exact op_sub (Ev.rfl' rfl) (Ev.rfl' rfl) wrapT) ?_
      refine JW_1 (op_conv (Ev.rfl' rfl) rfl rfl convT) ?_
      refine JW_1 (by first | exact op_fieldPtr (k := 0) (Ev.rfl' rfl) rfl rfl rfl rfl | exact op_fieldRefN (k := 0) (Ev.rfl' rfl) rfl rfl rfl rfl nrmT) ?_
      refine JW_ghost (s := 71) rfl rfl rfl (by kernel_rfl) (fun c' => by exact op_store (Ev.rfl' rfl) (Ev.rfl' rfl) cellsT replT (by rfl) (by rfl) (by rfl)) ?_
      refine JW_1 (by first | exact op_fieldPtr (k := 1) (Ev.rfl' rfl) rfl rfl rfl rfl | exact op_fieldRefN (k := 1) (Ev.rfl' rfl) rfl rfl rfl rfl nrmT) ?_
      refine JW_ghost (s := 71) rfl rfl rfl (by kernel_rfl) (fun c' => by exact op_store (Ev.rfl' rfl) (Ev.rfl' rfl) cellsT replT (by rfl) (by rfl) (by rfl)) ?_
      refine ⟨rfl, ?_⟩
      intro _
      refine JD_end ?_
      refine JQ_blkSub (b := i4) (As' := tNd.cells (ndK p 0)) replT (by show SubLs _ _ [Is (.bool (pinV p)), Is (.int .u32 (UV (epV p))), _, _, _, _, _, _, _, _, _, _, _, _, _, _]; rw [e1, e2]; exact subsT) ?_
      exact JQ_meetP () trivial esubT lessT
    have h7 : ¬ UV p.d0 > 0 := of_decide_eq_false h6
    have e1 : pinV p = false := h6
    have e2 : epV p = 0#32 := by unfold epV; rw [if_neg h7]
    clear h6
    refine JC_skip ?_
    refine JQ_blkSub (b := i4) (As' := tNd.cells (ndK p 0)) replT (by show SubLs _ _ [Is (.bool (pinV p)), Is (.int .u32 (UV (epV p))), _, _, _, _, _, _, _, _, _, _, _, _, _, _]; rw [e1, e2]; exact subsT) ?_
    exact JQ_meetP () trivial esubT lessT
  rintro _ _
  refine JC_seq (JC_seq ?_)
  refine JC_region ?_
  refine JL_1 rfl (op_move rfl) ?_
  refine JL_nil ?_
  refine JQ_then (JC_block ?_)
  refine JC_loopP (fun k : Nat => k ≤ 4 ∧ okN p k = true) (fun k => [(1, Is (.pointer (some ⟨i1, 0, none⟩))), (2, Is (.pointer (some ⟨i2, 0, none⟩))), (4, Is (.pointer (some ⟨i4, 0, none⟩))), (50, Is (.int .i64 (k : Nat)))]) (fun k => [blk i4 35 (tNd.cells (ndK p k)), blk i2 35 (tNd.cells Nd.nil), blk i1 25 (tPg.cells p)]) (fun k => 4 - k) 0 ⟨Nat.zero_le _, rfl⟩ esubT lessT ?_
  rintro k ⟨hk, hok⟩
  refine JC_seq ?_
  refine JC_region ?_
  refine JL_1 rfl (op_lss (Ev.rfl' rfl) (Ev.rfl' rfl)) ?_
  refine JL_nil ?_
  refine JQ_then (JC_seq ?_)
  refine JC_cond (Ev.rfl' rfl) (fun h9 => ?_) (fun h9 => ?_)
  · have hk4 : k = 0 ∨ k = 1 ∨ k = 2 ∨ k = 3 := by have := of_decide_eq_true h9; omega
    clear h9
    rcases hk4 with rfl | rfl | rfl | rfl
    all_goals
      refine JC_skip (JQ_then (JC_seq (JC_block (JC_seq ?_))))
      refine JC_region ?_
      refine JL_1 rfl (op_move rfl) ?_
      refine JL_1 rfl (op_assign rfl) ?_
      refine JL_nil ?_
      refine JQ_then (JC_seq ?_)
      refine JC_region ?_
      refine JL_1 rfl (op_move rfl) ?_
      refine JL_1 rfl (op_add (Ev.rfl' rfl) (Ev.rfl' rfl) wrapT) ?_
      refine JL_1 rfl (by first | exact op_fieldPtr (k := 2) (Ev.rfl' rfl) rfl rfl rfl rfl | exact op_fieldRefN (k := 2) (Ev.rfl' rfl) rfl rfl rfl rfl nrmT) ?_
      refine JL_1 rfl (by first | exact op_indexArr (k := 3) (sz := 1) (Ev.rfl' rfl) (Ev.rfl' rfl) rfl rfl (by decide) (by decide) | exact op_indexArr (k := 4) (sz := 1) (Ev.rfl' rfl) (Ev.rfl' rfl) rfl rfl (by decide) (by decide) | exact op_indexArr (k := 5) (sz := 1) (Ev.rfl' rfl) (Ev.rfl' rfl) rfl rfl (by decide) (by decide) | exact op_indexArr (k := 6) (sz := 1) (Ev.rfl' rfl) (Ev.rfl' rfl) rfl rfl (by decide) (by decide)) ?_
      refine JL_1 rfl (by first | exact op_loadRef (Ev.rfl' rfl) rfl rfl rfl | exact op_loadPtr (Ev.rfl' rfl) memT (by rfl) (by rfl) (by rfl)) ?_
      refine JL_1 rfl (op_call Try.call67 (unpackRetired_ok _) ⟨evS, trivial⟩) ?_
      refine JL_1 rfl (op_move rfl) ?_
      refine JL_1 rfl (op_extract (Ev.rfl' rfl) rfl) ?_
      refine JL_1 rfl (op_extract (Ev.rfl' rfl) rfl) ?_
      (refine JL_n rfl (op_allocN rfl nrmT rfl) ?_; intro i6)
      refine JL_s0 (op_storeN (Ev.rfl' rfl) (Ev.rfl' rfl) cellsT replT nrmT (by rfl) (by rfl) (by rfl)) ?_
      refine JL_1 rfl (op_assign rfl) ?_
      refine JL_nil ?_
      refine JQ_then (JC_seq (JC_seq ?_))
      refine JC_region ?_
      refine JL_1 rfl (op_move rfl) ?_
      refine JL_1 rfl (op_not (Ev.rfl' rfl)) ?_
      refine JL_nil ?_
      refine JQ_then ?_
      refine JC_cond (Ev.rfl' rfl) (fun h12 => ?_) (fun h12 => ?_)
      · have hbad : okN p 4 = false := by first | exact okN_bad0 (by simpa using h12) | exact okN_bad1 (by simpa using h12) | exact okN_bad2 (by simpa using h12) | exact okN_bad3 (by simpa using h12)
        rw [readN_x hl hb hbad]
        refine JC_seq ?_
        refine JC_region ?_
        refine JL_1 rfl (op_buildN (qs := []) rfl rfl rfl rfl trivial (by rfl) nrmT) ?_
        refine JL_s0 (op_storeN (Ev.rfl' rfl) (Ev.rfl' rfl) cellsT replT nrmT (by rfl) (by rfl) (by rfl)) ?_
        refine JL_1 rfl (op_assign rfl) ?_
        refine JL_nil ?_
        refine JQ_then (JC_ret (JQ_then_ret (JQ_block_ret (JQ_then_ret (JQ_then_ret (JQ_block_ret (JQ_then_ret ?_)))))))
        exact JQ_ret (Bs := [IsNd Nd.nil, Is (.int .i64 14)]) Try.results17 ⟨⟨_, _, _, _, rfl, memT, rfl, .inr ⟨rfl, _, rfl, rfl, subT⟩⟩, ⟨⟨_, rfl, subT⟩, trivial⟩⟩ () SubL.rfl' (List.nil_sublist _)
      refine JC_skip (JQ_then ?_)
      refine JC_region ?_
      refine JL_1 rfl (op_move rfl) ?_
      refine JL_1 rfl (by first | exact op_loadRefsN (n := 3) (Ev.rfl' rfl) rfl rfl rfl (by rfl) nrmT | exact op_loadPtrsN (n := 3) (Ev.rfl' rfl) memT (by rfl) (by rfl) (by rfl) (by rfl) nrmT) ?_
      refine JL_1 rfl (by first | exact op_fieldPtr (k := 4) (Ev.rfl' rfl) rfl rfl rfl rfl | exact op_fieldRefN (k := 4) (Ev.rfl' rfl) rfl rfl rfl rfl nrmT) ?_
      refine JL_1 rfl (by first | exact op_indexArr (k := 0) (sz := 3) (Ev.rfl' rfl) (Ev.rfl' rfl) rfl rfl (by decide) (by decide) | exact op_indexArr (k := 1) (sz := 3) (Ev.rfl' rfl) (Ev.rfl' rfl) rfl rfl (by decide) (by decide) | exact op_indexArr (k := 2) (sz := 3) (Ev.rfl' rfl) (Ev.rfl' rfl) rfl rfl (by decide) (by decide) | exact op_indexArr (k := 3) (sz := 3) (Ev.rfl' rfl) (Ev.rfl' rfl) rfl rfl (by decide) (by decide)) ?_
      refine JL_s0 (op_storeN (Ev.rfl' rfl) (Ev.rfl' rfl) cellsT replT nrmT (by rfl) (by rfl) (by rfl)) ?_
      refine JL_nil ?_
      refine JQ_block (JQ_then ?_)
      refine JC_region ?_
      refine JL_1 rfl (op_add (Ev.rfl' rfl) (Ev.rfl' rfl) wrapT) ?_
      refine JL_1 rfl (op_move rfl) ?_
      refine JL_nil ?_
      first | exact JQ_roundP 1 ⟨by omega, okN_add0 (by assumption) (by first | assumption | simpa using h12)⟩ (by omega) esubT lessT | exact JQ_roundP 2 ⟨by omega, okN_add1 (by assumption) (by first | assumption | simpa using h12)⟩ (by omega) esubT lessT | exact JQ_roundP 3 ⟨by omega, okN_add2 (by assumption) (by first | assumption | simpa using h12)⟩ (by omega) esubT lessT | exact JQ_roundP 4 ⟨by omega, okN_add3 (by assumption) (by first | assumption | simpa using h12)⟩ (by omega) esubT lessT
  have hk4 : k = 4 := by have := of_decide_eq_false h9; omega
  subst hk4
  rw [readN_0 hl hb hok]
  refine JC_exit (JQ_then_exit (JQ_then_exit (JQ_hit (JQ_then (JC_seq ?_)))))
  refine JC_region ?_
  refine JL_1 rfl (by first | exact op_loadRefsN (n := 16) (Ev.rfl' rfl) rfl rfl rfl (by rfl) nrmT | exact op_loadPtrsN (n := 16) (Ev.rfl' rfl) memT (by rfl) (by rfl) (by rfl) (by rfl) nrmT) ?_
  refine JL_s0 (op_storeN (Ev.rfl' rfl) (Ev.rfl' rfl) cellsT replT nrmT (by rfl) (by rfl) (by rfl)) ?_
  refine JL_1 rfl (op_assign rfl) ?_
  refine JL_nil ?_
  refine JQ_then (JC_ret ?_)
  exact JQ_ret (Bs := [IsNd (ndK p 4), Is (.int .i64 0)]) Try.results17 ⟨⟨_, _, _, _, rfl, memT, rfl, .inr ⟨rfl, _, rfl, rfl, subT⟩⟩, ⟨⟨_, rfl, subT⟩, trivial⟩⟩ () SubL.rfl' (List.nil_sublist _)
theorem d1_low {p : Pg} (h : UV p.d1 ≤ 511) : UV (BitVec.ofInt 32 ((UV p.d1).tmod 512)) = UV (p.d1.setWidth 32) := by
  have h0 := UV_nonneg p.d1
  rw [Int.tmod_eq_emod_of_nonneg h0, show UV p.d1 % 512 = UV p.d1 by omega]
  unfold UV at *
  rw [BitVec.toNat_ofInt, BitVec.toNat_setWidth]
  omega
theorem ndK_nil0 {p : Pg} (h : retE p.d3 = Re.nil) : ndK p 1 = ndK p 0 := by unfold ndK reK; simp [h]
theorem ndK_re0 {p : Pg} (h : ¬ p.d3 = 0#64) : ndK p 1 = { ndK p 0 with r0 := ⟨unpackP (p.d3.setWidth 32), (p.d3 >>> 32).setWidth 32⟩ } := by unfold ndK reK; simp [(ret_1 h).1]
theorem ndK_nil1 {p : Pg} (h : retE p.d4 = Re.nil) : ndK p 2 = ndK p 1 := by unfold ndK reK; simp [h]
theorem ndK_re1 {p : Pg} (h : ¬ p.d4 = 0#64) : ndK p 2 = { ndK p 1 with r1 := ⟨unpackP (p.d4.setWidth 32), (p.d4 >>> 32).setWidth 32⟩ } := by unfold ndK reK; simp [(ret_1 h).1]
theorem ndK_nil2 {p : Pg} (h : retE p.d5 = Re.nil) : ndK p 3 = ndK p 2 := by unfold ndK reK; simp [h]
theorem ndK_re2 {p : Pg} (h : ¬ p.d5 = 0#64) : ndK p 3 = { ndK p 2 with r2 := ⟨unpackP (p.d5.setWidth 32), (p.d5 >>> 32).setWidth 32⟩ } := by unfold ndK reK; simp [(ret_1 h).1]
theorem ndK_nil3 {p : Pg} (h : retE p.d6 = Re.nil) : ndK p 4 = ndK p 3 := by unfold ndK reK; simp [h]
theorem ndK_re3 {p : Pg} (h : ¬ p.d6 = 0#64) : ndK p 4 = { ndK p 3 with r3 := ⟨unpackP (p.d6.setWidth 32), (p.d6 >>> 32).setWidth 32⟩ } := by unfold ndK reK; simp [(ret_1 h).1]
theorem zeroK {x : BitVec 64} (h : (UV x == 0) = true) : x = 0#64 := by rw [← uv0_iff]; simpa using h
theorem nzK {x : BitVec 64} (h : (UV x == 0) = false) : ¬ x = 0#64 := by rw [← uv0_iff]; simpa using h
-- bodegaref19.ReadNode: function 18
set_option maxHeartbeats 8000000 in
theorem ReadNodeR_ok (p : Pg) : FnP Try.prog 18 [IsPg p] (IsTup [IsNd (readN p).1, Is (.int .i64 (readN p).2)]) := by
  have z2 := UV_nonneg p.d2
  have z1 := UV_nonneg p.d1
  refine FnP.enter Try.func18 Try.ntmps18 rfl rfl ?_
  intro c hX
  refine JC_seq ?_
  refine JC_region ?_
  (refine JL_n rfl (op_box (Ev.rfl' rfl) cellsT) ?_; intro i1)
  (refine JL_n rfl (op_allocN rfl nrmT rfl) ?_; intro i2)
  refine JL_1 rfl (op_assign rfl) ?_
  refine JL_nil ?_
  refine JQ_then (JC_seq (JC_seq ?_))
  refine JC_region ?_
  refine JL_1 rfl (by first | exact op_fieldPtr (k := 0) (Ev.rfl' rfl) rfl rfl rfl rfl | exact op_fieldRefN (k := 0) (Ev.rfl' rfl) rfl rfl rfl rfl nrmT) ?_
  refine JL_1 rfl (by first | exact op_loadRef (Ev.rfl' rfl) rfl rfl rfl | exact op_loadPtr (Ev.rfl' rfl) memT (by rfl) (by rfl) (by rfl)) ?_
  refine JL_1 rfl (op_call Try.call68 (isOwn_ok _) ⟨evS, trivial⟩) ?_
  refine JL_1 rfl (op_not (Ev.rfl' rfl)) ?_
  refine JL_nil ?_
  refine JQ_then ?_
  refine JC_cond (Ev.rfl' rfl) (fun h1 => ?_) (fun h1 => ?_)
  · have hl : ownB p.l = false := by simpa using h1
    rw [readN_1 hl]
    refine JC_seq ?_
    refine JC_region ?_
    refine JL_1 rfl (op_buildN (qs := []) rfl rfl rfl rfl trivial (by rfl) nrmT) ?_
    refine JL_s0 (op_storeN (Ev.rfl' rfl) (Ev.rfl' rfl) cellsT replT nrmT (by rfl) (by rfl) (by rfl)) ?_
    refine JL_1 rfl (op_assign rfl) ?_
    refine JL_nil ?_
    refine JQ_then (JC_ret (JQ_then_ret ?_))
    exact JQ_ret (Bs := [IsNd Nd.nil, Is (.int .i64 1)]) Try.results18 ⟨⟨_, _, _, _, rfl, memT, rfl, .inr ⟨rfl, _, rfl, rfl, subT⟩⟩, ⟨⟨_, rfl, subT⟩, trivial⟩⟩ () SubL.rfl' (List.nil_sublist _)
  have hl : ownB p.l = true := by simpa using h1
  have q1 : 0 ≤ (UV p.d1).tmod 512 ∧ (UV p.d1).tmod 512 < 512 := by rw [Int.tmod_eq_emod_of_nonneg z1]; omega
  have q2 : 0 ≤ (UV p.d2).tmod 1024 ∧ (UV p.d2).tmod 1024 < 1024 := by rw [Int.tmod_eq_emod_of_nonneg z2]; omega
  refine JC_skip (JQ_then (JC_seq ?_))
  refine JC_region ?_
  refine JL_1 rfl (by first | exact op_fieldPtr (k := 2) (Ev.rfl' rfl) rfl rfl rfl rfl | exact op_fieldRefN (k := 2) (Ev.rfl' rfl) rfl rfl rfl rfl nrmT) ?_
  refine JL_1 rfl (op_indexArr (k := 1) (sz := 1) (Ev.rfl' rfl) (Ev.rfl' rfl) rfl rfl idxT (by first | decide | omega)) ?_
  refine JL_1 rfl (by first | exact op_loadRef (Ev.rfl' rfl) rfl rfl rfl | exact op_loadPtr (Ev.rfl' rfl) memT (by rfl) (by rfl) (by rfl)) ?_
  refine JL_1 rfl (op_rem (Ev.rfl' rfl) (Ev.rfl' rfl) (by omega) rfl) ?_
  refine JL_1 rfl (op_conv (Ev.rfl' rfl) rfl rfl (wU32 (by omega))) ?_
  refine JL_1 rfl (by first | exact op_fieldPtr (k := 2) (Ev.rfl' rfl) rfl rfl rfl rfl | exact op_fieldRefN (k := 2) (Ev.rfl' rfl) rfl rfl rfl rfl nrmT) ?_
  refine JL_1 rfl (op_indexArr (k := 2) (sz := 1) (Ev.rfl' rfl) (Ev.rfl' rfl) rfl rfl idxT (by first | decide | omega)) ?_
  refine JL_1 rfl (by first | exact op_loadRef (Ev.rfl' rfl) rfl rfl rfl | exact op_loadPtr (Ev.rfl' rfl) memT (by rfl) (by rfl) (by rfl)) ?_
  refine JL_1 rfl (op_rem (Ev.rfl' rfl) (Ev.rfl' rfl) (by omega) rfl) ?_
  refine JL_1 rfl (op_conv (Ev.rfl' rfl) rfl rfl (wI64 (by omega))) ?_
  refine JL_1 rfl (op_buildN (qs := [(2, _), (3, _)]) rfl rfl rfl rfl ⟨⟨rfl, _, (Ev.rfl' rfl), cellsT⟩, ⟨⟨rfl, _, (Ev.rfl' rfl), cellsT⟩, trivial⟩⟩ (by rfl) nrmT) ?_
  (refine JL_n rfl (op_allocN rfl nrmT rfl) ?_; intro i4)
  refine JL_s0 (op_storeN (Ev.rfl' rfl) (Ev.rfl' rfl) cellsT replT nrmT (by rfl) (by rfl) (by rfl)) ?_
  refine JL_nil ?_
  refine JQ_then (JC_seq (JC_seq ?_))
  refine JC_region ?_
  refine JL_1 rfl (by first | exact op_fieldPtr (k := 2) (Ev.rfl' rfl) rfl rfl rfl rfl | exact op_fieldRefN (k := 2) (Ev.rfl' rfl) rfl rfl rfl rfl nrmT) ?_
  refine JL_1 rfl (op_indexArr (k := 0) (sz := 1) (Ev.rfl' rfl) (Ev.rfl' rfl) rfl rfl idxT (by first | decide | omega)) ?_
  refine JL_1 rfl (by first | exact op_loadRef (Ev.rfl' rfl) rfl rfl rfl | exact op_loadPtr (Ev.rfl' rfl) memT (by rfl) (by rfl) (by rfl)) ?_
  refine JL_1 rfl (op_gtr (Ev.rfl' rfl) (Ev.rfl' rfl)) ?_
  refine JL_1 rfl (op_move rfl) ?_
  (first | refine JL_i0 rfl rfl rfl (fun hg => (by have hg0 := hg; (try simp at hg); first | exact op_fieldPtr (k := 2) evG rfl rfl rfl rfl | exact op_fieldRefN (k := 2) evG rfl rfl rfl rfl nrmT)) ?_ | refine JL_i rfl rfl rfl (fun hp hg => (by have hpg := Bool.and_eq_true_iff.2 ⟨hp, hg⟩; have hg0 := hg; (try simp at hg); first | exact op_fieldPtr (k := 2) evG rfl rfl rfl rfl | exact op_fieldRefN (k := 2) evG rfl rfl rfl rfl nrmT)) ?_)
  (first | refine JL_i0 rfl rfl rfl (fun hg => (by have hg0 := hg; (try simp at hg); exact op_indexArr (k := 1) (sz := 1) evG evG rfl rfl idxT (by first | decide | omega))) ?_ | refine JL_i rfl rfl rfl (fun hp hg => (by have hpg := Bool.and_eq_true_iff.2 ⟨hp, hg⟩; have hg0 := hg; (try simp at hg); exact op_indexArr (k := 1) (sz := 1) evG evG rfl rfl idxT (by first | decide | omega))) ?_)
  (first | refine JL_i0 rfl rfl rfl (fun hg => (by have hg0 := hg; (try simp at hg); first | exact op_loadRef evG rfl rfl rfl | exact op_loadPtr evG memT (by rfl) (by rfl) (by rfl))) ?_ | refine JL_i rfl rfl rfl (fun hp hg => (by have hpg := Bool.and_eq_true_iff.2 ⟨hp, hg⟩; have hg0 := hg; (try simp at hg); first | exact op_loadRef evG rfl rfl rfl | exact op_loadPtr evG memT (by rfl) (by rfl) (by rfl))) ?_)
  (first | refine JL_i0 rfl rfl rfl (fun hg => (by have hg0 := hg; (try simp at hg); exact op_gtr evG evG)) ?_ | refine JL_i rfl rfl rfl (fun hp hg => (by have hpg := Bool.and_eq_true_iff.2 ⟨hp, hg⟩; have hg0 := hg; (try simp at hg); exact op_gtr evG evG)) ?_)
  refine JL_1 rfl (op_or (Ev.rfl' rfl) rfl (fun h => by first | exact SubL.rfl' | exact SubL.iteT (by first | (rw [h]; rfl) | (simp_all; done)) SubL.rfl')) ?_
  refine JL_1 rfl (op_move rfl) ?_
  (first | refine JL_i0 rfl rfl rfl (fun hg => (by have hg0 := hg; (try simp at hg); first | exact op_fieldPtr (k := 2) evG rfl rfl rfl rfl | exact op_fieldRefN (k := 2) evG rfl rfl rfl rfl nrmT)) ?_ | refine JL_i rfl rfl rfl (fun hp hg => (by have hpg := Bool.and_eq_true_iff.2 ⟨hp, hg⟩; have hg0 := hg; (try simp at hg); first | exact op_fieldPtr (k := 2) evG rfl rfl rfl rfl | exact op_fieldRefN (k := 2) evG rfl rfl rfl rfl nrmT)) ?_)
  (first | refine JL_i0 rfl rfl rfl (fun hg => (by have hg0 := hg; (try simp at hg); exact op_indexArr (k := 2) (sz := 1) evG evG rfl rfl idxT (by first | decide | omega))) ?_ | refine JL_i rfl rfl rfl (fun hp hg => (by have hpg := Bool.and_eq_true_iff.2 ⟨hp, hg⟩; have hg0 := hg; (try simp at hg); exact op_indexArr (k := 2) (sz := 1) evG evG rfl rfl idxT (by first | decide | omega))) ?_)
  (first | refine JL_i0 rfl rfl rfl (fun hg => (by have hg0 := hg; (try simp at hg); first | exact op_loadRef evG rfl rfl rfl | exact op_loadPtr evG memT (by rfl) (by rfl) (by rfl))) ?_ | refine JL_i rfl rfl rfl (fun hp hg => (by have hpg := Bool.and_eq_true_iff.2 ⟨hp, hg⟩; have hg0 := hg; (try simp at hg); first | exact op_loadRef evG rfl rfl rfl | exact op_loadPtr evG memT (by rfl) (by rfl) (by rfl))) ?_)
  (first | refine JL_i0 rfl rfl rfl (fun hg => (by have hg0 := hg; (try simp at hg); exact op_gtr evG evG)) ?_ | refine JL_i rfl rfl rfl (fun hp hg => (by have hpg := Bool.and_eq_true_iff.2 ⟨hp, hg⟩; have hg0 := hg; (try simp at hg); exact op_gtr evG evG)) ?_)
  refine JL_1 rfl (op_or (Ev.rfl' rfl) rfl (fun h => by first | exact SubL.rfl' | exact SubL.iteT (by first | (rw [h]; rfl) | (simp_all; done)) SubL.rfl')) ?_
  refine JL_nil ?_
  refine JQ_then ?_
  refine JC_cond (Ev.rfl' rfl) (fun h4 => ?_) (fun h4 => ?_)
  · have hb : badN p = true := h4
    rw [readN_b hl hb]
    refine JC_seq ?_
    refine JC_region ?_
    refine JL_1 rfl (op_buildN (qs := []) rfl rfl rfl rfl trivial (by rfl) nrmT) ?_
    refine JL_s0 (op_storeN (Ev.rfl' rfl) (Ev.rfl' rfl) cellsT replT nrmT (by rfl) (by rfl) (by rfl)) ?_
    refine JL_1 rfl (op_assign rfl) ?_
    refine JL_nil ?_
    refine JQ_then (JC_ret (JQ_then_ret ?_))
    exact JQ_ret (Bs := [IsNd Nd.nil, Is (.int .i64 14)]) Try.results18 ⟨⟨_, _, _, _, rfl, memT, rfl, .inr ⟨rfl, _, rfl, rfl, subT⟩⟩, ⟨⟨_, rfl, subT⟩, trivial⟩⟩ () SubL.rfl' (List.nil_sublist _)
  have hb : badN p = false := h4
  clear h4
  obtain ⟨b0, b1, b2⟩ := bad_rng hb
  have e3 : Value.int .u32 ((UV p.d1).tmod 512) = .int .u32 (UV (p.d1.setWidth 32)) := by rw [← d1_low b1, UV_ofInt32 (by omega)]
  have e4 : (UV p.d2).tmod 1024 = UV p.d2 := by rw [Int.tmod_eq_emod_of_nonneg z2]; omega
  rw [e3, e4]
  refine JC_skip (JQ_then (JC_seq (JC_seq ?_)))
  refine JC_region ?_
  refine JL_1 rfl (by first | exact op_fieldPtr (k := 2) (Ev.rfl' rfl) rfl rfl rfl rfl | exact op_fieldRefN (k := 2) (Ev.rfl' rfl) rfl rfl rfl rfl nrmT) ?_
  refine JL_1 rfl (op_indexArr (k := 0) (sz := 1) (Ev.rfl' rfl) (Ev.rfl' rfl) rfl rfl idxT (by first | decide | omega)) ?_
  refine JL_1 rfl (by first | exact op_loadRef (Ev.rfl' rfl) rfl rfl rfl | exact op_loadPtr (Ev.rfl' rfl) memT (by rfl) (by rfl) (by rfl)) ?_
  refine JL_1 rfl (op_gtr (Ev.rfl' rfl) (Ev.rfl' rfl)) ?_
  refine JL_nil ?_
  refine JQ_then ?_
  refine JC_cutT (fun _ : Unit => True) (fun _ => [(1, Is (.pointer (some ⟨i1, 0, none⟩))), (2, Is (.pointer (some ⟨i2, 0, none⟩))), (4, Is (.pointer (some ⟨i4, 0, none⟩)))]) (fun _ => [blk i4 52 (tNd.cells (ndK p 0)), blk i2 52 (tNd.cells Nd.nil), blk i1 25 (tPg.cells p)]) ?_ ?_
  rotate_left
  focus
    refine JC_cond (Ev.rfl' rfl) (fun h6 => ?_) (fun h6 => ?_)
    · have h7 : UV p.d0 > 0 := of_decide_eq_true h6
      have e1 : pinV p = true := h6
      have e2 : epV p = (p.d0 - 1#64).setWidth 32 := by unfold epV; rw [if_pos h7]
      clear h6
      refine JC_seq ?_
      refine JC_region ?_
      refine JL_1 rfl (by first | exact op_fieldPtr (k := 0) (Ev.rfl' rfl) rfl rfl rfl rfl | exact op_fieldRefN (k := 0) (Ev.rfl' rfl) rfl rfl rfl rfl nrmT) ?_
      refine JL_s0 (op_storeN (Ev.rfl' rfl) (Ev.rfl' rfl) cellsT replT nrmT (by rfl) (by rfl) (by rfl)) ?_
      refine JL_nil ?_
      refine JQ_then ?_
      refine JC_region ?_
      refine JL_1 rfl (by first | exact op_fieldPtr (k := 2) (Ev.rfl' rfl) rfl rfl rfl rfl | exact op_fieldRefN (k := 2) (Ev.rfl' rfl) rfl rfl rfl rfl nrmT) ?_
      refine JL_1 rfl (op_indexArr (k := 0) (sz := 1) (Ev.rfl' rfl) (Ev.rfl' rfl) rfl rfl idxT (by first | decide | omega)) ?_
      refine JL_1 rfl (by first | exact op_loadRef (Ev.rfl' rfl) rfl rfl rfl | exact op_loadPtr (Ev.rfl' rfl) memT (by rfl) (by rfl) (by rfl)) ?_
      refine JL_1 rfl (by first | exact op_binU ev64 ev64 (sub_u64 _ _ _) | exact op_sub (Ev.rfl' rfl) (Ev.rfl' rfl) wrapT) ?_
      refine JL_1 rfl (op_conv (Ev.rfl' rfl) rfl rfl convT) ?_
      refine JL_1 rfl (by first | exact op_fieldPtr (k := 1) (Ev.rfl' rfl) rfl rfl rfl rfl | exact op_fieldRefN (k := 1) (Ev.rfl' rfl) rfl rfl rfl rfl nrmT) ?_
      refine JL_s0 (op_storeN (Ev.rfl' rfl) (Ev.rfl' rfl) cellsT replT nrmT (by rfl) (by rfl) (by rfl)) ?_
      refine JL_nil ?_
      refine JQ_blkSub (b := i4) (As' := tNd.cells (ndK p 0)) replT (by show SubLs _ _ [Is (.bool (pinV p)), Is (.int .u32 (UV (epV p))), _, _, _, _, _, _, _, _, _, _, _, _, _, _]; rw [e1, e2]; exact subsT) ?_
      exact JQ_meetP () trivial esubT lessT
    have h7 : ¬ UV p.d0 > 0 := of_decide_eq_false h6
    have e1 : pinV p = false := h6
    have e2 : epV p = 0#32 := by unfold epV; rw [if_neg h7]
    clear h6
    refine JC_skip ?_
    refine JQ_blkSub (b := i4) (As' := tNd.cells (ndK p 0)) replT (by show SubLs _ _ [Is (.bool (pinV p)), Is (.int .u32 (UV (epV p))), _, _, _, _, _, _, _, _, _, _, _, _, _, _]; rw [e1, e2]; exact subsT) ?_
    exact JQ_meetP () trivial esubT lessT
  rintro _ _
  refine JC_seq (JC_seq ?_)
  refine JC_region ?_
  refine JL_1 rfl (op_assign rfl) ?_
  refine JL_nil ?_
  refine JQ_then (JC_block ?_)
  refine JC_loopP (fun k : Nat => k ≤ 4 ∧ okN p k = true) (fun k => [(1, Is (.pointer (some ⟨i1, 0, none⟩))), (2, Is (.pointer (some ⟨i2, 0, none⟩))), (4, Is (.pointer (some ⟨i4, 0, none⟩))), (5, Is (.int .i64 (k : Nat)))]) (fun k => [blk i4 52 (tNd.cells (ndK p k)), blk i2 52 (tNd.cells Nd.nil), blk i1 25 (tPg.cells p)]) (fun k => 4 - k) 0 ⟨Nat.zero_le _, rfl⟩ esubT lessT ?_
  rintro k ⟨hk, hok⟩
  refine JC_seq (JC_seq ?_)
  refine JC_region ?_
  refine JL_1 rfl (op_move rfl) ?_
  refine JL_1 rfl (op_lss (Ev.rfl' rfl) (Ev.rfl' rfl)) ?_
  refine JL_nil ?_
  refine JQ_then ?_
  refine JC_cond (Ev.rfl' rfl) (fun h10 => ?_) (fun h10 => ?_)
  · have hk4 : k = 0 ∨ k = 1 ∨ k = 2 ∨ k = 3 := by have := of_decide_eq_true h10; omega
    clear h10
    rcases hk4 with rfl | rfl | rfl | rfl
    all_goals
      refine JC_skip (JQ_then (JC_seq (JC_block (JC_seq ?_))))
      refine JC_region ?_
      refine JL_1 rfl (op_move rfl) ?_
      refine JL_1 rfl (op_add (Ev.rfl' rfl) (Ev.rfl' rfl) wrapT) ?_
      refine JL_1 rfl (by first | exact op_fieldPtr (k := 2) (Ev.rfl' rfl) rfl rfl rfl rfl | exact op_fieldRefN (k := 2) (Ev.rfl' rfl) rfl rfl rfl rfl nrmT) ?_
      refine JL_1 rfl (by first | exact op_indexArr (k := 3) (sz := 1) (Ev.rfl' rfl) (Ev.rfl' rfl) rfl rfl (by decide) (by decide) | exact op_indexArr (k := 4) (sz := 1) (Ev.rfl' rfl) (Ev.rfl' rfl) rfl rfl (by decide) (by decide) | exact op_indexArr (k := 5) (sz := 1) (Ev.rfl' rfl) (Ev.rfl' rfl) rfl rfl (by decide) (by decide) | exact op_indexArr (k := 6) (sz := 1) (Ev.rfl' rfl) (Ev.rfl' rfl) rfl rfl (by decide) (by decide)) ?_
      refine JL_1 rfl (by first | exact op_loadRef (Ev.rfl' rfl) rfl rfl rfl | exact op_loadPtr (Ev.rfl' rfl) memT (by rfl) (by rfl) (by rfl)) ?_
      refine JL_1 rfl (op_assign rfl) ?_
      refine JL_nil ?_
      refine JQ_then (JC_seq (JC_seq ?_))
      refine JC_region ?_
      refine JL_1 rfl (op_move rfl) ?_
      refine JL_1 rfl (op_eql (Ev.rfl' rfl) (Ev.rfl' rfl)) ?_
      refine JL_nil ?_
      refine JQ_then ?_
      refine JC_cond (Ev.rfl' rfl) (fun h13 => ?_) (fun h13 => ?_)
      · have hz := zeroK h13
        refine JC_exit (JQ_then_exit (JQ_hit (JQ_then ?_)))
        refine JC_region ?_
        refine JL_1 rfl (op_move rfl) ?_
        refine JL_1 rfl (op_add (Ev.rfl' rfl) (Ev.rfl' rfl) wrapT) ?_
        refine JL_1 rfl (op_assign rfl) ?_
        refine JL_nil ?_
        first | (refine JQ_blkSub (b := i4) (As' := tNd.cells (ndK p 1)) replT (by rw [ndK_nil0 (ret_0 hz).1]; exact SubLs.rfl') ?_; exact JQ_roundP 1 ⟨by omega, okN_add0 hok (ret_0 hz).2⟩ (by omega) esubT lessT) | (refine JQ_blkSub (b := i4) (As' := tNd.cells (ndK p 2)) replT (by rw [ndK_nil1 (ret_0 hz).1]; exact SubLs.rfl') ?_; exact JQ_roundP 2 ⟨by omega, okN_add1 hok (ret_0 hz).2⟩ (by omega) esubT lessT) | (refine JQ_blkSub (b := i4) (As' := tNd.cells (ndK p 3)) replT (by rw [ndK_nil2 (ret_0 hz).1]; exact SubLs.rfl') ?_; exact JQ_roundP 3 ⟨by omega, okN_add2 hok (ret_0 hz).2⟩ (by omega) esubT lessT) | (refine JQ_blkSub (b := i4) (As' := tNd.cells (ndK p 4)) replT (by rw [ndK_nil3 (ret_0 hz).1]; exact SubLs.rfl') ?_; exact JQ_roundP 4 ⟨by omega, okN_add3 hok (ret_0 hz).2⟩ (by omega) esubT lessT) | (refine JQ_blkSub (b := i4) (As' := tNd.cells (ndK p 1)) replT (by rw [ndK_re0 hz]; exact subsT) ?_; exact JQ_roundP 1 ⟨by omega, okN_add0 hok (by rw [(ret_1 hz).2]; simpa using h15)⟩ (by omega) esubT lessT) | (refine JQ_blkSub (b := i4) (As' := tNd.cells (ndK p 2)) replT (by rw [ndK_re1 hz]; exact subsT) ?_; exact JQ_roundP 2 ⟨by omega, okN_add1 hok (by rw [(ret_1 hz).2]; simpa using h15)⟩ (by omega) esubT lessT) | (refine JQ_blkSub (b := i4) (As' := tNd.cells (ndK p 3)) replT (by rw [ndK_re2 hz]; exact subsT) ?_; exact JQ_roundP 3 ⟨by omega, okN_add2 hok (by rw [(ret_1 hz).2]; simpa using h15)⟩ (by omega) esubT lessT) | (refine JQ_blkSub (b := i4) (As' := tNd.cells (ndK p 4)) replT (by rw [ndK_re3 hz]; exact subsT) ?_; exact JQ_roundP 4 ⟨by omega, okN_add3 hok (by rw [(ret_1 hz).2]; simpa using h15)⟩ (by omega) esubT lessT)
      have hz := nzK h13
      refine JC_skip (JQ_then (JC_seq ?_))
      refine JC_region ?_
      refine JL_1 rfl (op_move rfl) ?_
      refine JL_1 rfl (op_conv (Ev.rfl' rfl) rfl rfl convT) ?_
      refine JL_1 rfl (op_call Try.call69 (UnpackR_ok _) ⟨evS, trivial⟩) ?_
      (refine JL_n rfl (op_allocN rfl nrmT rfl) ?_; intro i7)
      refine JL_s0 (op_storeN (Ev.rfl' rfl) (Ev.rfl' rfl) cellsT replT nrmT (by rfl) (by rfl) (by rfl)) ?_
      refine JL_nil ?_
      refine JQ_then (JC_seq (JC_seq ?_))
      refine JC_region ?_
      refine JL_1 rfl (by first | exact op_loadRefsN (n := 2) (Ev.rfl' rfl) rfl rfl rfl (by rfl) nrmT | exact op_loadPtrsN (n := 2) (Ev.rfl' rfl) memT (by rfl) (by rfl) (by rfl) (by rfl) nrmT) ?_
      refine JL_1 rfl (op_call Try.call70 (ValidPR_ok _) ⟨evS, trivial⟩) ?_
      refine JL_1 rfl (op_not (Ev.rfl' rfl)) ?_
      refine JL_nil ?_
      refine JQ_then ?_
      refine JC_cond (Ev.rfl' rfl) (fun h15 => ?_) (fun h15 => ?_)
      · have hbad : okN p 4 = false := by first | exact okN_bad0 (by rw [(ret_1 hz).2]; simpa using h15) | exact okN_bad1 (by rw [(ret_1 hz).2]; simpa using h15) | exact okN_bad2 (by rw [(ret_1 hz).2]; simpa using h15) | exact okN_bad3 (by rw [(ret_1 hz).2]; simpa using h15)
        rw [readN_x hl hb hbad]
        refine JC_seq ?_
        refine JC_region ?_
        refine JL_1 rfl (op_buildN (qs := []) rfl rfl rfl rfl trivial (by rfl) nrmT) ?_
        refine JL_s0 (op_storeN (Ev.rfl' rfl) (Ev.rfl' rfl) cellsT replT nrmT (by rfl) (by rfl) (by rfl)) ?_
        refine JL_1 rfl (op_assign rfl) ?_
        refine JL_nil ?_
        refine JQ_then (JC_ret (JQ_then_ret (JQ_block_ret (JQ_then_ret (JQ_then_ret (JQ_block_ret (JQ_then_ret ?_)))))))
        exact JQ_ret (Bs := [IsNd Nd.nil, Is (.int .i64 14)]) Try.results18 ⟨⟨_, _, _, _, rfl, memT, rfl, .inr ⟨rfl, _, rfl, rfl, subT⟩⟩, ⟨⟨_, rfl, subT⟩, trivial⟩⟩ () SubL.rfl' (List.nil_sublist _)
      refine JC_skip (JQ_then ?_)
      refine JC_region ?_
      refine JL_1 rfl (op_move rfl) ?_
      refine JL_1 rfl (by first | exact op_loadRefsN (n := 2) (Ev.rfl' rfl) rfl rfl rfl (by rfl) nrmT | exact op_loadPtrsN (n := 2) (Ev.rfl' rfl) memT (by rfl) (by rfl) (by rfl) (by rfl) nrmT) ?_
      refine JL_1 rfl (op_move rfl) ?_
      refine JL_1 rfl (by first | exact op_shrU (k := 32) ev64 (Ev.rfl' rfl) (by first | omega | exact UV_nonneg _) idxT | exact op_shr (Ev.rfl' rfl) (Ev.rfl' rfl) (by first | omega | exact UV_nonneg _) rfl) ?_
      refine JL_1 rfl (op_conv (Ev.rfl' rfl) rfl rfl convT) ?_
      refine JL_1 rfl (op_buildN (qs := [(0, _), (1, _)]) rfl rfl rfl rfl ⟨⟨rfl, _, (Ev.rfl' rfl), cellsT⟩, ⟨⟨rfl, _, (Ev.rfl' rfl), cellsT⟩, trivial⟩⟩ (by rfl) nrmT) ?_
      refine JL_1 rfl (by first | exact op_fieldPtr (k := 4) (Ev.rfl' rfl) rfl rfl rfl rfl | exact op_fieldRefN (k := 4) (Ev.rfl' rfl) rfl rfl rfl rfl nrmT) ?_
      refine JL_1 rfl (by first | exact op_indexArr (k := 0) (sz := 3) (Ev.rfl' rfl) (Ev.rfl' rfl) rfl rfl (by decide) (by decide) | exact op_indexArr (k := 1) (sz := 3) (Ev.rfl' rfl) (Ev.rfl' rfl) rfl rfl (by decide) (by decide) | exact op_indexArr (k := 2) (sz := 3) (Ev.rfl' rfl) (Ev.rfl' rfl) rfl rfl (by decide) (by decide) | exact op_indexArr (k := 3) (sz := 3) (Ev.rfl' rfl) (Ev.rfl' rfl) rfl rfl (by decide) (by decide)) ?_
      refine JL_s0 (op_storeN (Ev.rfl' rfl) (Ev.rfl' rfl) cellsT replT nrmT (by rfl) (by rfl) (by rfl)) ?_
      refine JL_nil ?_
      refine JQ_block (JQ_then ?_)
      refine JC_region ?_
      refine JL_1 rfl (op_move rfl) ?_
      refine JL_1 rfl (op_add (Ev.rfl' rfl) (Ev.rfl' rfl) wrapT) ?_
      refine JL_1 rfl (op_assign rfl) ?_
      refine JL_nil ?_
      first | (refine JQ_blkSub (b := i4) (As' := tNd.cells (ndK p 1)) replT (by rw [ndK_nil0 (ret_0 hz).1]; exact SubLs.rfl') ?_; exact JQ_roundP 1 ⟨by omega, okN_add0 hok (ret_0 hz).2⟩ (by omega) esubT lessT) | (refine JQ_blkSub (b := i4) (As' := tNd.cells (ndK p 2)) replT (by rw [ndK_nil1 (ret_0 hz).1]; exact SubLs.rfl') ?_; exact JQ_roundP 2 ⟨by omega, okN_add1 hok (ret_0 hz).2⟩ (by omega) esubT lessT) | (refine JQ_blkSub (b := i4) (As' := tNd.cells (ndK p 3)) replT (by rw [ndK_nil2 (ret_0 hz).1]; exact SubLs.rfl') ?_; exact JQ_roundP 3 ⟨by omega, okN_add2 hok (ret_0 hz).2⟩ (by omega) esubT lessT) | (refine JQ_blkSub (b := i4) (As' := tNd.cells (ndK p 4)) replT (by rw [ndK_nil3 (ret_0 hz).1]; exact SubLs.rfl') ?_; exact JQ_roundP 4 ⟨by omega, okN_add3 hok (ret_0 hz).2⟩ (by omega) esubT lessT) | (refine JQ_blkSub (b := i4) (As' := tNd.cells (ndK p 1)) replT (by rw [ndK_re0 hz]; exact subsT) ?_; exact JQ_roundP 1 ⟨by omega, okN_add0 hok (by rw [(ret_1 hz).2]; simpa using h15)⟩ (by omega) esubT lessT) | (refine JQ_blkSub (b := i4) (As' := tNd.cells (ndK p 2)) replT (by rw [ndK_re1 hz]; exact subsT) ?_; exact JQ_roundP 2 ⟨by omega, okN_add1 hok (by rw [(ret_1 hz).2]; simpa using h15)⟩ (by omega) esubT lessT) | (refine JQ_blkSub (b := i4) (As' := tNd.cells (ndK p 3)) replT (by rw [ndK_re2 hz]; exact subsT) ?_; exact JQ_roundP 3 ⟨by omega, okN_add2 hok (by rw [(ret_1 hz).2]; simpa using h15)⟩ (by omega) esubT lessT) | (refine JQ_blkSub (b := i4) (As' := tNd.cells (ndK p 4)) replT (by rw [ndK_re3 hz]; exact subsT) ?_; exact JQ_roundP 4 ⟨by omega, okN_add3 hok (by rw [(ret_1 hz).2]; simpa using h15)⟩ (by omega) esubT lessT)
  have hk4 : k = 4 := by have := of_decide_eq_false h10; omega
  subst hk4
  rw [readN_0 hl hb hok]
  refine JC_exit (JQ_then_exit (JQ_then_exit (JQ_hit (JQ_then (JC_seq ?_)))))
  refine JC_region ?_
  refine JL_1 rfl (by first | exact op_loadRefsN (n := 16) (Ev.rfl' rfl) rfl rfl rfl (by rfl) nrmT | exact op_loadPtrsN (n := 16) (Ev.rfl' rfl) memT (by rfl) (by rfl) (by rfl) (by rfl) nrmT) ?_
  refine JL_s0 (op_storeN (Ev.rfl' rfl) (Ev.rfl' rfl) cellsT replT nrmT (by rfl) (by rfl) (by rfl)) ?_
  refine JL_1 rfl (op_assign rfl) ?_
  refine JL_nil ?_
  refine JQ_then (JC_ret ?_)
  exact JQ_ret (Bs := [IsNd (ndK p 4), Is (.int .i64 0)]) Try.results18 ⟨⟨_, _, _, _, rfl, memT, rfl, .inr ⟨rfl, _, rfl, rfl, subT⟩⟩, ⟨⟨_, rfl, subT⟩, trivial⟩⟩ () SubL.rfl' (List.nil_sublist _)
def rwV (r : Re) : BitVec 64 := if r = Re.nil then 0#64 else packW (packP r.to) (r.ep.setWidth 64)
def rwB (r : Re) : Bool := decide (r = Re.nil) || validP r.to
def rwK (k j : Nat) (w : BitVec 64) : BitVec 64 := if j < k then w else 0#64
def pinW (n : Nd) : BitVec 64 := if n.pin = true then n.ep.setWidth 64 + 1#64 else 0#64
def pgK (p : Pg) (n : Nd) (k : Nat) : Pg := ⟨p.l, p.h, pinW n, n.sg.setWidth 64, BitVec.ofInt 64 n.inc, rwK k 0 (rwV n.r0), rwK k 1 (rwV n.r1), rwK k 2 (rwV n.r2), rwK k 3 (rwV n.r3)⟩
def okR (n : Nd) (k : Nat) : Bool := match k with
  | 0 => true
  | 1 => rwB n.r0
  | 2 => rwB n.r0 && rwB n.r1
  | 3 => rwB n.r0 && rwB n.r1 && rwB n.r2
  | _ => rwB n.r0 && rwB n.r1 && rwB n.r2 && rwB n.r3
def badW (p : Pg) (n : Nd) : Bool := !ownB p.l || ((!n.pin && UV n.ep != 0) || (decide (UV n.sg > 511) || (decide (n.inc < 0) || decide (n.inc > 59))))
def writeN (p : Pg) (n : Nd) : Pg × Int := if badW p n = true then (Pg.nil, 1) else if okR n 4 = true then (pgK p n 4, 0) else (Pg.nil, 1)
theorem badW_rng {p : Pg} {n : Nd} (h : badW p n = false) : 0 ≤ n.inc ∧ n.inc ≤ 59 ∧ UV n.sg ≤ 511 := by
  unfold badW at h
  simp at h
  omega
theorem writeN_b {p : Pg} {n : Nd} (h : badW p n = true) : writeN p n = (Pg.nil, 1) := by unfold writeN; rw [if_pos h]
theorem writeN_x {p : Pg} {n : Nd} (h : badW p n = false) (h2 : okR n 4 = false) : writeN p n = (Pg.nil, 1) := by unfold writeN; rw [if_neg (by rw [h]; simp), if_neg (by rw [h2]; simp)]
theorem writeN_0 {p : Pg} {n : Nd} (h : badW p n = false) (h2 : okR n 4 = true) : writeN p n = (pgK p n 4, 0) := by unfold writeN; rw [if_neg (by rw [h]; simp), if_pos h2]
theorem okR_bad0 {n : Nd} (h : rwB n.r0 = false) : okR n 4 = false := by unfold okR; simp [h]
theorem okR_add0 {n : Nd} (h0 : okR n 0 = true) (h : rwB n.r0 = true) : okR n 1 = true := by unfold okR at h0 ⊢; simp_all
theorem pgK_nil0 {p : Pg} {n : Nd} (h : n.r0 = Re.nil) : pgK p n 1 = pgK p n 0 := by unfold pgK rwK rwV; simp [h]
theorem pgK_re0 {p : Pg} {n : Nd} (h : ¬ n.r0 = Re.nil) : pgK p n 1 = { pgK p n 0 with d3 := packW (packP n.r0.to) (n.r0.ep.setWidth 64) } := by unfold pgK rwK rwV; simp [h]
theorem okR_bad1 {n : Nd} (h : rwB n.r1 = false) : okR n 4 = false := by unfold okR; simp [h]
theorem okR_add1 {n : Nd} (h0 : okR n 1 = true) (h : rwB n.r1 = true) : okR n 2 = true := by unfold okR at h0 ⊢; simp_all
theorem pgK_nil1 {p : Pg} {n : Nd} (h : n.r1 = Re.nil) : pgK p n 2 = pgK p n 1 := by unfold pgK rwK rwV; simp [h]
theorem pgK_re1 {p : Pg} {n : Nd} (h : ¬ n.r1 = Re.nil) : pgK p n 2 = { pgK p n 1 with d4 := packW (packP n.r1.to) (n.r1.ep.setWidth 64) } := by unfold pgK rwK rwV; simp [h]
theorem okR_bad2 {n : Nd} (h : rwB n.r2 = false) : okR n 4 = false := by unfold okR; simp [h]
theorem okR_add2 {n : Nd} (h0 : okR n 2 = true) (h : rwB n.r2 = true) : okR n 3 = true := by unfold okR at h0 ⊢; simp_all
theorem pgK_nil2 {p : Pg} {n : Nd} (h : n.r2 = Re.nil) : pgK p n 3 = pgK p n 2 := by unfold pgK rwK rwV; simp [h]
theorem pgK_re2 {p : Pg} {n : Nd} (h : ¬ n.r2 = Re.nil) : pgK p n 3 = { pgK p n 2 with d5 := packW (packP n.r2.to) (n.r2.ep.setWidth 64) } := by unfold pgK rwK rwV; simp [h]
theorem okR_bad3 {n : Nd} (h : rwB n.r3 = false) : okR n 4 = false := by unfold okR; simp [h]
theorem okR_add3 {n : Nd} (h0 : okR n 3 = true) (h : rwB n.r3 = true) : okR n 4 = true := by unfold okR at h0 ⊢; simp_all
theorem pgK_nil3 {p : Pg} {n : Nd} (h : n.r3 = Re.nil) : pgK p n 4 = pgK p n 3 := by unfold pgK rwK rwV; simp [h]
theorem pgK_re3 {p : Pg} {n : Nd} (h : ¬ n.r3 = Re.nil) : pgK p n 4 = { pgK p n 3 with d6 := packW (packP n.r3.to) (n.r3.ep.setWidth 64) } := by unfold pgK rwK rwV; simp [h]
theorem nilB {r : Re} (h : decide (r = Re.nil) = true) : r = Re.nil := of_decide_eq_true h
theorem nnilB {r : Re} (h : decide (r = Re.nil) = false) : ¬ r = Re.nil := of_decide_eq_false h
theorem rwB_nil {r : Re} (h : r = Re.nil) : rwB r = true := by unfold rwB; rw [decide_eq_true h]; rfl
theorem rwB_re {r : Re} (h : ¬ r = Re.nil) : rwB r = validP r.to := by unfold rwB; rw [decide_eq_false h]; rfl
theorem badW_prog (p : Pg) (n : Nd) : ((((!ownB p.l || (!n.pin && UV n.ep != 0)) || decide (UV n.sg ≥ 512)) || decide (n.inc < 0)) || decide (n.inc > 59)) = badW p n := by
  have : decide (UV n.sg ≥ 512) = decide (UV n.sg > 511) := by rw [Bool.eq_iff_iff]; simp; omega
  unfold badW
  rw [this, Bool.or_assoc, Bool.or_assoc, Bool.or_assoc]
-- segment.WriteNode: function 24
set_option maxHeartbeats 8000000 in
theorem WriteNode_ok (p : Pg) (n : Nd) : FnP Try.prog 24 [IsPg p, IsNd n] (IsTup [IsPg (writeN p n).1, Is (.int .i64 (writeN p n).2)]) := by
  refine FnP.enter Try.func24 Try.ntmps24 rfl rfl ?_
  intro c hX
  refine JC_seq ?_
  refine JC_region ?_
  (refine JL_n rfl (op_box (Ev.rfl' rfl) cellsT) ?_; intro i2)
  (refine JL_n rfl (op_box (Ev.rfl' rfl) cellsT) ?_; intro i3)
  (refine JL_n rfl (op_allocN rfl nrmT rfl) ?_; intro i4)
  refine JL_1 rfl (op_assign rfl) ?_
  refine JL_nil ?_
  refine JQ_then (JC_seq (JC_seq ?_))
  refine JC_region ?_
  refine JL_1 rfl (by first | exact op_fieldPtr (k := 0) (Ev.rfl' rfl) rfl rfl rfl rfl | exact op_fieldRefN (k := 0) (Ev.rfl' rfl) rfl rfl rfl rfl nrmT) ?_
  refine JL_1 rfl (by first | exact op_loadRef (Ev.rfl' rfl) rfl rfl rfl | exact op_loadPtr (Ev.rfl' rfl) memT (by rfl) (by rfl) (by rfl)) ?_
  refine JL_1 rfl (op_call Try.call66 (isNodeLine_ok _) ⟨evS, trivial⟩) ?_
  refine JL_1 rfl (op_not (Ev.rfl' rfl)) ?_
  refine JL_1 rfl (op_move rfl) ?_
  (first | refine JL_i0 rfl rfl rfl (fun hg => (by have hg0 := hg; (try simp at hg); first | exact op_fieldPtr (k := 0) evG rfl rfl rfl rfl | exact op_fieldRefN (k := 0) evG rfl rfl rfl rfl nrmT)) ?_ | refine JL_i rfl rfl rfl (fun hp hg => (by have hpg := Bool.and_eq_true_iff.2 ⟨hp, hg⟩; have hg0 := hg; (try simp at hg); first | exact op_fieldPtr (k := 0) evG rfl rfl rfl rfl | exact op_fieldRefN (k := 0) evG rfl rfl rfl rfl nrmT)) ?_)
  (first | refine JL_i0 rfl rfl rfl (fun hg => (by have hg0 := hg; (try simp at hg); first | exact op_loadRef evG rfl rfl rfl | exact op_loadPtr evG memT (by rfl) (by rfl) (by rfl))) ?_ | refine JL_i rfl rfl rfl (fun hp hg => (by have hpg := Bool.and_eq_true_iff.2 ⟨hp, hg⟩; have hg0 := hg; (try simp at hg); first | exact op_loadRef evG rfl rfl rfl | exact op_loadPtr evG memT (by rfl) (by rfl) (by rfl))) ?_)
  (first | refine JL_i0 rfl rfl rfl (fun hg => (by have hg0 := hg; (try simp at hg); exact op_not evG)) ?_ | refine JL_i rfl rfl rfl (fun hp hg => (by have hpg := Bool.and_eq_true_iff.2 ⟨hp, hg⟩; have hg0 := hg; (try simp at hg); exact op_not evG)) ?_)
  (first | refine JL_i0 rfl rfl rfl (fun hg => (by have hg0 := hg; (try simp at hg); first | exact op_moveE (Ev.sub rfl (SubL.iteT (by first | assumption | (simp; done) | (simp; omega) | (simp_all; done)) SubL.rfl')) | exact op_moveE (Ev.rfl' rfl))) ?_ | refine JL_i rfl rfl rfl (fun hp hg => (by have hpg := Bool.and_eq_true_iff.2 ⟨hp, hg⟩; have hg0 := hg; (try simp at hg); first | exact op_moveE (Ev.sub rfl (SubL.iteT (by first | assumption | (simp; done) | (simp; omega) | (simp_all; done)) SubL.rfl')) | exact op_moveE (Ev.rfl' rfl))) ?_)
  (first | refine JL_i0 rfl rfl rfl (fun hg => (by have hg0 := hg; (try simp at hg); first | exact op_fieldPtr (k := 1) evG rfl rfl rfl rfl | exact op_fieldRefN (k := 1) evG rfl rfl rfl rfl nrmT)) ?_ | refine JL_i rfl rfl rfl (fun hp hg => (by have hpg := Bool.and_eq_true_iff.2 ⟨hp, hg⟩; have hg0 := hg; (try simp at hg); first | exact op_fieldPtr (k := 1) evG rfl rfl rfl rfl | exact op_fieldRefN (k := 1) evG rfl rfl rfl rfl nrmT)) ?_)
  (first | refine JL_i0 rfl rfl rfl (fun hg => (by have hg0 := hg; (try simp at hg); first | exact op_loadRef evG rfl rfl rfl | exact op_loadPtr evG memT (by rfl) (by rfl) (by rfl))) ?_ | refine JL_i rfl rfl rfl (fun hp hg => (by have hpg := Bool.and_eq_true_iff.2 ⟨hp, hg⟩; have hg0 := hg; (try simp at hg); first | exact op_loadRef evG rfl rfl rfl | exact op_loadPtr evG memT (by rfl) (by rfl) (by rfl))) ?_)
  (first | refine JL_i0 rfl rfl rfl (fun hg => (by have hg0 := hg; (try simp at hg); exact op_neq evG evG)) ?_ | refine JL_i rfl rfl rfl (fun hp hg => (by have hpg := Bool.and_eq_true_iff.2 ⟨hp, hg⟩; have hg0 := hg; (try simp at hg); exact op_neq evG evG)) ?_)
  (first | refine JL_i0 rfl rfl rfl (fun hg => (by have hg0 := hg; (try simp at hg); exact op_and evG rfl (fun h => by first | exact SubL.rfl' | exact SubL.iteT (by first | (rw [h]; rfl) | (simp_all; done)) SubL.rfl'))) ?_ | refine JL_i rfl rfl rfl (fun hp hg => (by have hpg := Bool.and_eq_true_iff.2 ⟨hp, hg⟩; have hg0 := hg; (try simp at hg); exact op_and evG rfl (fun h => by first | exact SubL.rfl' | exact SubL.iteT (by first | (rw [h]; rfl) | (simp_all; done)) SubL.rfl'))) ?_)
  refine JL_1 rfl (op_or (Ev.rfl' rfl) rfl (fun h => by first | exact SubL.rfl' | exact SubL.iteT (by first | (rw [h]; rfl) | (simp_all; done)) SubL.rfl')) ?_
  refine JL_1 rfl (op_move rfl) ?_
  (first | refine JL_i0 rfl rfl rfl (fun hg => (by have hg0 := hg; (try simp at hg); first | exact op_fieldPtr (k := 2) evG rfl rfl rfl rfl | exact op_fieldRefN (k := 2) evG rfl rfl rfl rfl nrmT)) ?_ | refine JL_i rfl rfl rfl (fun hp hg => (by have hpg := Bool.and_eq_true_iff.2 ⟨hp, hg⟩; have hg0 := hg; (try simp at hg); first | exact op_fieldPtr (k := 2) evG rfl rfl rfl rfl | exact op_fieldRefN (k := 2) evG rfl rfl rfl rfl nrmT)) ?_)
  (first | refine JL_i0 rfl rfl rfl (fun hg => (by have hg0 := hg; (try simp at hg); first | exact op_loadRef evG rfl rfl rfl | exact op_loadPtr evG memT (by rfl) (by rfl) (by rfl))) ?_ | refine JL_i rfl rfl rfl (fun hp hg => (by have hpg := Bool.and_eq_true_iff.2 ⟨hp, hg⟩; have hg0 := hg; (try simp at hg); first | exact op_loadRef evG rfl rfl rfl | exact op_loadPtr evG memT (by rfl) (by rfl) (by rfl))) ?_)
  (first | refine JL_i0 rfl rfl rfl (fun hg => (by have hg0 := hg; (try simp at hg); exact op_geq evG evG)) ?_ | refine JL_i rfl rfl rfl (fun hp hg => (by have hpg := Bool.and_eq_true_iff.2 ⟨hp, hg⟩; have hg0 := hg; (try simp at hg); exact op_geq evG evG)) ?_)
  refine JL_1 rfl (op_or (Ev.rfl' rfl) rfl (fun h => by first | exact SubL.rfl' | exact SubL.iteT (by first | (rw [h]; rfl) | (simp_all; done)) SubL.rfl')) ?_
  refine JL_1 rfl (op_move rfl) ?_
  (first | refine JL_i0 rfl rfl rfl (fun hg => (by have hg0 := hg; (try simp at hg); first | exact op_fieldPtr (k := 3) evG rfl rfl rfl rfl | exact op_fieldRefN (k := 3) evG rfl rfl rfl rfl nrmT)) ?_ | refine JL_i rfl rfl rfl (fun hp hg => (by have hpg := Bool.and_eq_true_iff.2 ⟨hp, hg⟩; have hg0 := hg; (try simp at hg); first | exact op_fieldPtr (k := 3) evG rfl rfl rfl rfl | exact op_fieldRefN (k := 3) evG rfl rfl rfl rfl nrmT)) ?_)
  (first | refine JL_i0 rfl rfl rfl (fun hg => (by have hg0 := hg; (try simp at hg); first | exact op_loadRef evG rfl rfl rfl | exact op_loadPtr evG memT (by rfl) (by rfl) (by rfl))) ?_ | refine JL_i rfl rfl rfl (fun hp hg => (by have hpg := Bool.and_eq_true_iff.2 ⟨hp, hg⟩; have hg0 := hg; (try simp at hg); first | exact op_loadRef evG rfl rfl rfl | exact op_loadPtr evG memT (by rfl) (by rfl) (by rfl))) ?_)
  (first | refine JL_i0 rfl rfl rfl (fun hg => (by have hg0 := hg; (try simp at hg); exact op_lss evG evG)) ?_ | refine JL_i rfl rfl rfl (fun hp hg => (by have hpg := Bool.and_eq_true_iff.2 ⟨hp, hg⟩; have hg0 := hg; (try simp at hg); exact op_lss evG evG)) ?_)
  refine JL_1 rfl (op_or (Ev.rfl' rfl) rfl (fun h => by first | exact SubL.rfl' | exact SubL.iteT (by first | (rw [h]; rfl) | (simp_all; done)) SubL.rfl')) ?_
  refine JL_1 rfl (op_move rfl) ?_
  (first | refine JL_i0 rfl rfl rfl (fun hg => (by have hg0 := hg; (try simp at hg); first | exact op_fieldPtr (k := 3) evG rfl rfl rfl rfl | exact op_fieldRefN (k := 3) evG rfl rfl rfl rfl nrmT)) ?_ | refine JL_i rfl rfl rfl (fun hp hg => (by have hpg := Bool.and_eq_true_iff.2 ⟨hp, hg⟩; have hg0 := hg; (try simp at hg); first | exact op_fieldPtr (k := 3) evG rfl rfl rfl rfl | exact op_fieldRefN (k := 3) evG rfl rfl rfl rfl nrmT)) ?_)
  (first | refine JL_i0 rfl rfl rfl (fun hg => (by have hg0 := hg; (try simp at hg); first | exact op_loadRef evG rfl rfl rfl | exact op_loadPtr evG memT (by rfl) (by rfl) (by rfl))) ?_ | refine JL_i rfl rfl rfl (fun hp hg => (by have hpg := Bool.and_eq_true_iff.2 ⟨hp, hg⟩; have hg0 := hg; (try simp at hg); first | exact op_loadRef evG rfl rfl rfl | exact op_loadPtr evG memT (by rfl) (by rfl) (by rfl))) ?_)
  (first | refine JL_i0 rfl rfl rfl (fun hg => (by have hg0 := hg; (try simp at hg); exact op_gtr evG evG)) ?_ | refine JL_i rfl rfl rfl (fun hp hg => (by have hpg := Bool.and_eq_true_iff.2 ⟨hp, hg⟩; have hg0 := hg; (try simp at hg); exact op_gtr evG evG)) ?_)
  refine JL_1 rfl (op_or (Ev.rfl' rfl) rfl (fun h => by first | exact SubL.rfl' | exact SubL.iteT (by first | (rw [h]; rfl) | (simp_all; done)) SubL.rfl')) ?_
  refine JL_nil ?_
  refine JQ_then ?_
  refine JC_cond (Ev.rfl' rfl) (fun h1 => ?_) (fun h1 => ?_)
  · have hb : badW p n = true := by rw [← badW_prog]; exact h1
    rw [writeN_b hb]
    refine JC_seq ?_
    refine JC_region ?_
    refine JL_1 rfl (op_buildN (qs := []) rfl rfl rfl rfl trivial (by rfl) nrmT) ?_
    refine JL_s0 (op_storeN (Ev.rfl' rfl) (Ev.rfl' rfl) cellsT replT nrmT (by rfl) (by rfl) (by rfl)) ?_
    refine JL_1 rfl (op_assign rfl) ?_
    refine JL_nil ?_
    refine JQ_then (JC_ret (JQ_then_ret ?_))
    exact JQ_ret (Bs := [IsPg Pg.nil, Is (.int .i64 1)]) Try.results24 ⟨⟨_, _, _, _, rfl, memT, rfl, .inr ⟨rfl, _, rfl, rfl, subT⟩⟩, ⟨⟨_, rfl, subT⟩, trivial⟩⟩ () SubL.rfl' (List.nil_sublist _)
  have hb : badW p n = false := by rw [← badW_prog]; exact h1
  clear h1
  obtain ⟨b0, b1, b2⟩ := badW_rng hb
  refine JC_skip (JQ_then (JC_seq ?_))
  refine JC_region ?_
  refine JL_1 rfl (by first | exact op_fieldPtr (k := 2) (Ev.rfl' rfl) rfl rfl rfl rfl | exact op_fieldRefN (k := 2) (Ev.rfl' rfl) rfl rfl rfl rfl nrmT) ?_
  refine JL_1 rfl (by first | exact op_loadRef (Ev.rfl' rfl) rfl rfl rfl | exact op_loadPtr (Ev.rfl' rfl) memT (by rfl) (by rfl) (by rfl)) ?_
  refine JL_1 rfl (op_conv (Ev.rfl' rfl) rfl rfl convT) ?_
  refine JL_1 rfl (by first | exact op_fieldPtr (k := 3) (Ev.rfl' rfl) rfl rfl rfl rfl | exact op_fieldRefN (k := 3) (Ev.rfl' rfl) rfl rfl rfl rfl nrmT) ?_
  refine JL_1 rfl (by first | exact op_loadRef (Ev.rfl' rfl) rfl rfl rfl | exact op_loadPtr (Ev.rfl' rfl) memT (by rfl) (by rfl) (by rfl)) ?_
  refine JL_1 rfl (op_conv (Ev.rfl' rfl) rfl rfl convT) ?_
  refine JL_set 43 (Is (.int .u64 (UV (BitVec.ofInt 64 n.inc)))) rfl (SubL.eq (congrArg Is (u64lit (by omega)))) ?_
  refine JL_1 rfl (op_buildArr (size := 1) (qs := [(0, _), (1, _), (2, _)]) rfl rfl rfl rfl ⟨⟨rfl, _, (Ev.rfl' rfl), cellsT⟩, ⟨⟨rfl, _, (Ev.rfl' rfl), cellsT⟩, ⟨⟨rfl, _, (Ev.rfl' rfl), cellsT⟩, trivial⟩⟩⟩ (by rfl) nrmT) ?_
  refine JL_1 rfl (by first | exact op_fieldPtr (k := 2) (Ev.rfl' rfl) rfl rfl rfl rfl | exact op_fieldRefN (k := 2) (Ev.rfl' rfl) rfl rfl rfl rfl nrmT) ?_
  refine JL_s0 (op_storeN (Ev.rfl' rfl) (Ev.rfl' rfl) cellsT replT nrmT (by rfl) (by rfl) (by rfl)) ?_
  refine JL_nil ?_
  refine JQ_then (JC_seq (JC_seq ?_))
  refine JC_region ?_
  refine JL_1 rfl (by first | exact op_fieldPtr (k := 0) (Ev.rfl' rfl) rfl rfl rfl rfl | exact op_fieldRefN (k := 0) (Ev.rfl' rfl) rfl rfl rfl rfl nrmT) ?_
  refine JL_1 rfl (by first | exact op_loadRef (Ev.rfl' rfl) rfl rfl rfl | exact op_loadPtr (Ev.rfl' rfl) memT (by rfl) (by rfl) (by rfl)) ?_
  refine JL_nil ?_
  refine JQ_then ?_
  refine JC_cutT (fun _ : Unit => True) (fun _ => [(2, Is (.pointer (some ⟨i2, 0, none⟩))), (3, Is (.pointer (some ⟨i3, 0, none⟩))), (4, Is (.pointer (some ⟨i4, 0, none⟩)))]) (fun _ => [blk i2 25 (tPg.cells (pgK p n 0)), blk i4 25 (tPg.cells Pg.nil), blk i3 35 (tNd.cells n)]) ?_ ?_
  rotate_left
  focus
    refine JC_cond (Ev.rfl' rfl) (fun h4 => ?_) (fun h4 => ?_)
    · have e1 : pinW n = n.ep.setWidth 64 + 1#64 := by unfold pinW; rw [if_pos h4]
      refine JC_region ?_
      refine JL_1 rfl (by first | exact op_fieldPtr (k := 1) (Ev.rfl' rfl) rfl rfl rfl rfl | exact op_fieldRefN (k := 1) (Ev.rfl' rfl) rfl rfl rfl rfl nrmT) ?_
      refine JL_1 rfl (by first | exact op_loadRef (Ev.rfl' rfl) rfl rfl rfl | exact op_loadPtr (Ev.rfl' rfl) memT (by rfl) (by rfl) (by rfl)) ?_
      refine JL_1 rfl (op_conv (Ev.rfl' rfl) rfl rfl convT) ?_
      refine JL_1 rfl (by first | exact op_binU ev64 ev64 (add_u64 _ _ _) | exact op_add (Ev.rfl' rfl) (Ev.rfl' rfl) wrapT) ?_
      refine JL_1 rfl (by first | exact op_fieldPtr (k := 2) (Ev.rfl' rfl) rfl rfl rfl rfl | exact op_fieldRefN (k := 2) (Ev.rfl' rfl) rfl rfl rfl rfl nrmT) ?_
      refine JL_1 rfl (op_indexArr (k := 0) (sz := 1) (Ev.rfl' rfl) (Ev.rfl' rfl) rfl rfl idxT (by first | decide | omega)) ?_
      refine JL_s0 (op_storeN (Ev.rfl' rfl) (Ev.rfl' rfl) cellsT replT nrmT (by rfl) (by rfl) (by rfl)) ?_
      refine JL_nil ?_
      refine JQ_blkSub (b := i2) (As' := tPg.cells (pgK p n 0)) replT (by show SubLs _ _ [_, _, Is (.int .u64 (UV (pinW n))), _, _, _, _, _, _]; rw [e1]; exact subsT) ?_
      exact JQ_meetP () trivial esubT lessT
    have e1 : pinW n = 0#64 := by unfold pinW; rw [if_neg (by rw [h4]; simp)]
    refine JC_skip ?_
    refine JQ_blkSub (b := i2) (As' := tPg.cells (pgK p n 0)) replT (by show SubLs _ _ [_, _, Is (.int .u64 (UV (pinW n))), _, _, _, _, _, _]; rw [e1]; exact subsT) ?_
    exact JQ_meetP () trivial esubT lessT
  rintro _ _
  refine JC_seq (JC_seq ?_)
  refine JC_region ?_
  refine JL_1 rfl (by first | exact op_fieldPtr (k := 4) (Ev.rfl' rfl) rfl rfl rfl rfl | exact op_fieldRefN (k := 4) (Ev.rfl' rfl) rfl rfl rfl rfl nrmT) ?_
  refine JL_1 rfl (by first | exact op_loadRefsN (n := 12) (Ev.rfl' rfl) rfl rfl rfl (by rfl) nrmT | exact op_loadPtrsN (n := 12) (Ev.rfl' rfl) memT (by rfl) (by rfl) (by rfl) (by rfl) nrmT) ?_
  refine JL_1 rfl (op_move rfl) ?_
  refine JL_nil ?_
  refine JQ_then (JC_block ?_)
  refine JC_loopP (fun k : Nat => k ≤ 4 ∧ okR n k = true) (fun k => [(2, Is (.pointer (some ⟨i2, 0, none⟩))), (4, Is (.pointer (some ⟨i4, 0, none⟩))), (55, IsAgg ((tNd.cells n).drop 4)), (56, Is (.int .i64 (k : Nat)))]) (fun k => [blk i2 25 (tPg.cells (pgK p n k)), blk i4 25 (tPg.cells Pg.nil)]) (fun k => 4 - k) 0 ⟨Nat.zero_le _, rfl⟩ esubT lessT ?_
  rintro k ⟨hk, hok⟩
  refine JC_seq ?_
  refine JC_region ?_
  refine JL_1 rfl (op_lss (Ev.rfl' rfl) (Ev.rfl' rfl)) ?_
  refine JL_nil ?_
  refine JQ_then (JC_seq ?_)
  refine JC_cond (Ev.rfl' rfl) (fun h7 => ?_) (fun h7 => ?_)
  · have hk4 : k = 0 ∨ k = 1 ∨ k = 2 ∨ k = 3 := by have := of_decide_eq_true h7; omega
    clear h7
    rcases hk4 with rfl | rfl | rfl | rfl
    all_goals
      refine JC_skip (JQ_then (JC_seq (JC_block (JC_seq ?_))))
      refine JC_region ?_
      refine JL_1 rfl (op_move rfl) ?_
      refine JL_1 rfl (by first | exact op_indexV (k := 0) (sz := 3) (Ev.rfl' rfl) (Ev.rfl' rfl) rfl rfl rfl rfl (by decide) (by decide) nrmT | exact op_indexV (k := 1) (sz := 3) (Ev.rfl' rfl) (Ev.rfl' rfl) rfl rfl rfl rfl (by decide) (by decide) nrmT | exact op_indexV (k := 2) (sz := 3) (Ev.rfl' rfl) (Ev.rfl' rfl) rfl rfl rfl rfl (by decide) (by decide) nrmT | exact op_indexV (k := 3) (sz := 3) (Ev.rfl' rfl) (Ev.rfl' rfl) rfl rfl rfl rfl (by decide) (by decide) nrmT) ?_
      (refine JL_n rfl (op_allocN rfl nrmT rfl) ?_; intro i7)
      refine JL_1 rfl (op_assign rfl) ?_
      refine JL_s0 (op_storeN (Ev.rfl' rfl) (Ev.rfl' rfl) cellsT replT nrmT (by rfl) (by rfl) (by rfl)) ?_
      refine JL_nil ?_
      refine JQ_then (JC_block (JC_seq ?_))
      refine JC_region ?_
      refine JL_1 rfl (by first | exact op_loadRefsN (n := 3) (Ev.rfl' rfl) rfl rfl rfl (by rfl) nrmT | exact op_loadPtrsN (n := 3) (Ev.rfl' rfl) memT (by rfl) (by rfl) (by rfl) (by rfl) nrmT) ?_
      refine JL_1 rfl (op_buildN (qs := []) rfl rfl rfl rfl trivial (by rfl) nrmT) ?_
      refine JL_1 rfl (by first | exact op_cmpA (vs := Re.cells n.r0) (ws := Re.cells Re.nil) (Ev.rfl' rfl) evS (eqRe_guard _ _ _ n.r0 Re.nil) (eqRe_eql n.r0 Re.nil) | exact op_cmpA (vs := Re.cells n.r1) (ws := Re.cells Re.nil) (Ev.rfl' rfl) evS (eqRe_guard _ _ _ n.r1 Re.nil) (eqRe_eql n.r1 Re.nil) | exact op_cmpA (vs := Re.cells n.r2) (ws := Re.cells Re.nil) (Ev.rfl' rfl) evS (eqRe_guard _ _ _ n.r2 Re.nil) (eqRe_eql n.r2 Re.nil) | exact op_cmpA (vs := Re.cells n.r3) (ws := Re.cells Re.nil) (Ev.rfl' rfl) evS (eqRe_guard _ _ _ n.r3 Re.nil) (eqRe_eql n.r3 Re.nil)) ?_
      refine JL_1 rfl (op_assign rfl) ?_
      refine JL_nil ?_
      refine JQ_then ?_
      refine JC_cond (Ev.rfl' rfl) (fun h10 => ?_) (fun h10 => ?_)
      · have hz := nilB h10
        refine JC_skip (JQ_block (JQ_block (JQ_then ?_)))
        refine JC_region ?_
        refine JL_1 rfl (op_add (Ev.rfl' rfl) (Ev.rfl' rfl) wrapT) ?_
        refine JL_1 rfl (op_move rfl) ?_
        refine JL_nil ?_
        first | (refine JQ_blkSub (b := i2) (As' := tPg.cells (pgK p n 1)) replT (by rw [pgK_nil0 hz]; exact SubLs.rfl') ?_; exact JQ_roundP 1 ⟨by omega, okR_add0 hok (rwB_nil hz)⟩ (by omega) esubT lessT) | (refine JQ_blkSub (b := i2) (As' := tPg.cells (pgK p n 2)) replT (by rw [pgK_nil1 hz]; exact SubLs.rfl') ?_; exact JQ_roundP 2 ⟨by omega, okR_add1 hok (rwB_nil hz)⟩ (by omega) esubT lessT) | (refine JQ_blkSub (b := i2) (As' := tPg.cells (pgK p n 3)) replT (by rw [pgK_nil2 hz]; exact SubLs.rfl') ?_; exact JQ_roundP 3 ⟨by omega, okR_add2 hok (rwB_nil hz)⟩ (by omega) esubT lessT) | (refine JQ_blkSub (b := i2) (As' := tPg.cells (pgK p n 4)) replT (by rw [pgK_nil3 hz]; exact SubLs.rfl') ?_; exact JQ_roundP 4 ⟨by omega, okR_add3 hok (rwB_nil hz)⟩ (by omega) esubT lessT) | (refine JQ_blkSub (b := i2) (As' := tPg.cells (pgK p n 1)) replT (by rw [pgK_re0 hz]; exact subsT) ?_; exact JQ_roundP 1 ⟨by omega, okR_add0 hok (by rw [rwB_re hz]; exact h11)⟩ (by omega) esubT lessT) | (refine JQ_blkSub (b := i2) (As' := tPg.cells (pgK p n 2)) replT (by rw [pgK_re1 hz]; exact subsT) ?_; exact JQ_roundP 2 ⟨by omega, okR_add1 hok (by rw [rwB_re hz]; exact h11)⟩ (by omega) esubT lessT) | (refine JQ_blkSub (b := i2) (As' := tPg.cells (pgK p n 3)) replT (by rw [pgK_re2 hz]; exact subsT) ?_; exact JQ_roundP 3 ⟨by omega, okR_add2 hok (by rw [rwB_re hz]; exact h11)⟩ (by omega) esubT lessT) | (refine JQ_blkSub (b := i2) (As' := tPg.cells (pgK p n 4)) replT (by rw [pgK_re3 hz]; exact subsT) ?_; exact JQ_roundP 4 ⟨by omega, okR_add3 hok (by rw [rwB_re hz]; exact h11)⟩ (by omega) esubT lessT)
      have hz := nnilB h10
      refine JC_seq ?_
      refine JC_region ?_
      refine JL_1 rfl (by first | exact op_fieldPtr (k := 0) (Ev.rfl' rfl) rfl rfl rfl rfl | exact op_fieldRefN (k := 0) (Ev.rfl' rfl) rfl rfl rfl rfl nrmT) ?_
      refine JL_1 rfl (by first | exact op_loadRefsN (n := 2) (Ev.rfl' rfl) rfl rfl rfl (by rfl) nrmT | exact op_loadPtrsN (n := 2) (Ev.rfl' rfl) memT (by rfl) (by rfl) (by rfl) (by rfl) nrmT) ?_
      refine JL_1 rfl (op_call Try.call72 (ValidP_ok _) ⟨evS, trivial⟩) ?_
      refine JL_1 rfl (op_assign rfl) ?_
      refine JL_nil ?_
      refine JQ_then ?_
      refine JC_cond (Ev.rfl' rfl) (fun h11 => ?_) (fun h11 => ?_)
      · refine JC_dr rfl (by kernel_rfl) ?_
        refine JD_phase [0, 0, 1, 1, 1, 0, 1, 1, 0, 0, 0, 1, 1, 2] (by kernel_rfl) (by kernel_rfl) ?_
        refine PW_0 (op_move rfl) ?_
        refine PW_0 (op_add (Ev.rfl' rfl) (Ev.rfl' rfl) wrapT) ?_
        refine PW_1 (by first | exact op_fieldPtr (k := 0) (Ev.rfl' rfl) rfl rfl rfl rfl | exact op_fieldRefN (k := 0) (Ev.rfl' rfl) rfl rfl rfl rfl nrmT) ?_
        refine PW_1 (by first | exact op_loadRefsN (n := 2) (Ev.rfl' rfl) rfl rfl rfl (by rfl) nrmT | exact op_loadPtrsN (n := 2) (Ev.rfl' rfl) memT (by rfl) (by rfl) (by rfl) (by rfl) nrmT) ?_
        refine PW_1 (op_call Try.call73 (Pack_ok _) ⟨evS, trivial⟩) ?_
        refine PW_0 (op_conv (Ev.rfl' rfl) rfl rfl convT) ?_
        refine PW_1 (by first | exact op_fieldPtr (k := 2) (Ev.rfl' rfl) rfl rfl rfl rfl | exact op_fieldRefN (k := 2) (Ev.rfl' rfl) rfl rfl rfl rfl nrmT) ?_
        refine PW_1 (by first | exact op_loadRef (Ev.rfl' rfl) rfl rfl rfl | exact op_loadPtr (Ev.rfl' rfl) memT (by rfl) (by rfl) (by rfl)) ?_
        refine PW_0 (op_conv (Ev.rfl' rfl) rfl rfl convT) ?_
        refine PW_0 (by first | exact op_shlU (k := 32) ev64 (Ev.rfl' rfl) (by first | omega | exact UV_nonneg _) idxT | exact op_shl (Ev.rfl' rfl) (Ev.rfl' rfl) (by first | omega | exact UV_nonneg _) rfl) ?_
        refine PW_0 (by first | exact op_bits ev64 ev64 (by simp) (or_u64 _ _) | exact op_bits (Ev.rfl' rfl) (Ev.rfl' rfl) (by simp) rfl) ?_
        refine PW_1 (by first | exact op_fieldPtr (k := 2) (Ev.rfl' rfl) rfl rfl rfl rfl | exact op_fieldRefN (k := 2) (Ev.rfl' rfl) rfl rfl rfl rfl nrmT) ?_
        refine PW_1 (by first | exact op_indexArr (k := 3) (sz := 1) (Ev.rfl' rfl) (Ev.rfl' rfl) rfl rfl (by decide) (by decide) | exact op_indexArr (k := 4) (sz := 1) (Ev.rfl' rfl) (Ev.rfl' rfl) rfl rfl (by decide) (by decide) | exact op_indexArr (k := 5) (sz := 1) (Ev.rfl' rfl) (Ev.rfl' rfl) rfl rfl (by decide) (by decide) | exact op_indexArr (k := 6) (sz := 1) (Ev.rfl' rfl) (Ev.rfl' rfl) rfl rfl (by decide) (by decide)) ?_
        refine PW_2 (op_storeN (Ev.rfl' rfl) (Ev.rfl' rfl) cellsT replT nrmT (by rfl) (by rfl) (by rfl)) ?_
        refine PW_end ?_
        refine JD_end ?_
        refine JQ_block (JQ_block (JQ_then ?_))
        refine JC_region ?_
        refine JL_1 rfl (op_add (Ev.rfl' rfl) (Ev.rfl' rfl) wrapT) ?_
        refine JL_1 rfl (op_move rfl) ?_
        refine JL_nil ?_
        first | (refine JQ_blkSub (b := i2) (As' := tPg.cells (pgK p n 1)) replT (by rw [pgK_nil0 hz]; exact SubLs.rfl') ?_; exact JQ_roundP 1 ⟨by omega, okR_add0 hok (rwB_nil hz)⟩ (by omega) esubT lessT) | (refine JQ_blkSub (b := i2) (As' := tPg.cells (pgK p n 2)) replT (by rw [pgK_nil1 hz]; exact SubLs.rfl') ?_; exact JQ_roundP 2 ⟨by omega, okR_add1 hok (rwB_nil hz)⟩ (by omega) esubT lessT) | (refine JQ_blkSub (b := i2) (As' := tPg.cells (pgK p n 3)) replT (by rw [pgK_nil2 hz]; exact SubLs.rfl') ?_; exact JQ_roundP 3 ⟨by omega, okR_add2 hok (rwB_nil hz)⟩ (by omega) esubT lessT) | (refine JQ_blkSub (b := i2) (As' := tPg.cells (pgK p n 4)) replT (by rw [pgK_nil3 hz]; exact SubLs.rfl') ?_; exact JQ_roundP 4 ⟨by omega, okR_add3 hok (rwB_nil hz)⟩ (by omega) esubT lessT) | (refine JQ_blkSub (b := i2) (As' := tPg.cells (pgK p n 1)) replT (by rw [pgK_re0 hz]; exact subsT) ?_; exact JQ_roundP 1 ⟨by omega, okR_add0 hok (by rw [rwB_re hz]; exact h11)⟩ (by omega) esubT lessT) | (refine JQ_blkSub (b := i2) (As' := tPg.cells (pgK p n 2)) replT (by rw [pgK_re1 hz]; exact subsT) ?_; exact JQ_roundP 2 ⟨by omega, okR_add1 hok (by rw [rwB_re hz]; exact h11)⟩ (by omega) esubT lessT) | (refine JQ_blkSub (b := i2) (As' := tPg.cells (pgK p n 3)) replT (by rw [pgK_re2 hz]; exact subsT) ?_; exact JQ_roundP 3 ⟨by omega, okR_add2 hok (by rw [rwB_re hz]; exact h11)⟩ (by omega) esubT lessT) | (refine JQ_blkSub (b := i2) (As' := tPg.cells (pgK p n 4)) replT (by rw [pgK_re3 hz]; exact subsT) ?_; exact JQ_roundP 4 ⟨by omega, okR_add3 hok (by rw [rwB_re hz]; exact h11)⟩ (by omega) esubT lessT)
      have hbad : okR n 4 = false := by first | exact okR_bad0 (by rw [rwB_re hz]; exact h11) | exact okR_bad1 (by rw [rwB_re hz]; exact h11) | exact okR_bad2 (by rw [rwB_re hz]; exact h11) | exact okR_bad3 (by rw [rwB_re hz]; exact h11)
      rw [writeN_x hb hbad]
      refine JC_seq ?_
      refine JC_region ?_
      refine JL_1 rfl (op_buildN (qs := []) rfl rfl rfl rfl trivial (by rfl) nrmT) ?_
      refine JL_s0 (op_storeN (Ev.rfl' rfl) (Ev.rfl' rfl) cellsT replT nrmT (by rfl) (by rfl) (by rfl)) ?_
      refine JL_1 rfl (op_assign rfl) ?_
      refine JL_nil ?_
      refine JQ_then (JC_ret (JQ_block_ret (JQ_block_ret (JQ_then_ret (JQ_then_ret (JQ_block_ret (JQ_then_ret ?_)))))))
      exact JQ_ret (Bs := [IsPg Pg.nil, Is (.int .i64 1)]) Try.results24 ⟨⟨_, _, _, _, rfl, memT, rfl, .inr ⟨rfl, _, rfl, rfl, subT⟩⟩, ⟨⟨_, rfl, subT⟩, trivial⟩⟩ () SubL.rfl' (List.nil_sublist _)
  have hk4 : k = 4 := by have := of_decide_eq_false h7; omega
  subst hk4
  rw [writeN_0 hb hok]
  refine JC_exit (JQ_then_exit (JQ_then_exit (JQ_hit (JQ_then (JC_seq ?_)))))
  refine JC_region ?_
  refine JL_1 rfl (by first | exact op_loadRefsN (n := 9) (Ev.rfl' rfl) rfl rfl rfl (by rfl) nrmT | exact op_loadPtrsN (n := 9) (Ev.rfl' rfl) memT (by rfl) (by rfl) (by rfl) (by rfl) nrmT) ?_
  refine JL_s0 (op_storeN (Ev.rfl' rfl) (Ev.rfl' rfl) cellsT replT nrmT (by rfl) (by rfl) (by rfl)) ?_
  refine JL_1 rfl (op_assign rfl) ?_
  refine JL_nil ?_
  refine JQ_then (JC_ret ?_)
  exact JQ_ret (Bs := [IsPg (pgK p n 4), Is (.int .i64 0)]) Try.results24 ⟨⟨_, _, _, _, rfl, memT, rfl, .inr ⟨rfl, _, rfl, rfl, subT⟩⟩, ⟨⟨_, rfl, subT⟩, trivial⟩⟩ () SubL.rfl' (List.nil_sublist _)
theorem badW_ref (p : Pg) (n : Nd) : ((((!ownB p.l || decide (UV n.sg > 511)) || decide (n.inc < 0)) || decide (n.inc > 59)) || (!n.pin && UV n.ep != 0)) = badW p n := by
  unfold badW
  cases ownB p.l <;> cases decide (UV n.sg > 511) <;> cases decide (n.inc < 0) <;> cases decide (n.inc > 59) <;> simp
-- bodegaref19.WriteNode: function 25
set_option maxHeartbeats 8000000 in
theorem WriteNodeR_ok (p : Pg) (n : Nd) : FnP Try.prog 25 [IsPg p, IsNd n] (IsTup [IsPg (writeN p n).1, Is (.int .i64 (writeN p n).2)]) := by
  refine FnP.enter Try.func25 Try.ntmps25 rfl rfl ?_
  intro c hX
  refine JC_seq ?_
  refine JC_region ?_
  (refine JL_n rfl (op_box (Ev.rfl' rfl) cellsT) ?_; intro i2)
  (refine JL_n rfl (op_box (Ev.rfl' rfl) cellsT) ?_; intro i3)
  (refine JL_n rfl (op_allocN rfl nrmT rfl) ?_; intro i4)
  refine JL_1 rfl (op_assign rfl) ?_
  refine JL_nil ?_
  refine JQ_then (JC_seq (JC_seq ?_))
  refine JC_region ?_
  refine JL_1 rfl (by first | exact op_fieldPtr (k := 0) (Ev.rfl' rfl) rfl rfl rfl rfl | exact op_fieldRefN (k := 0) (Ev.rfl' rfl) rfl rfl rfl rfl nrmT) ?_
  refine JL_1 rfl (by first | exact op_loadRef (Ev.rfl' rfl) rfl rfl rfl | exact op_loadPtr (Ev.rfl' rfl) memT (by rfl) (by rfl) (by rfl)) ?_
  refine JL_1 rfl (op_call Try.call68 (isOwn_ok _) ⟨evS, trivial⟩) ?_
  refine JL_1 rfl (op_not (Ev.rfl' rfl)) ?_
  refine JL_1 rfl (op_move rfl) ?_
  (first | refine JL_i0 rfl rfl rfl (fun hg => (by have hg0 := hg; (try simp at hg); first | exact op_fieldPtr (k := 2) evG rfl rfl rfl rfl | exact op_fieldRefN (k := 2) evG rfl rfl rfl rfl nrmT)) ?_ | refine JL_i rfl rfl rfl (fun hp hg => (by have hpg := Bool.and_eq_true_iff.2 ⟨hp, hg⟩; have hg0 := hg; (try simp at hg); first | exact op_fieldPtr (k := 2) evG rfl rfl rfl rfl | exact op_fieldRefN (k := 2) evG rfl rfl rfl rfl nrmT)) ?_)
  (first | refine JL_i0 rfl rfl rfl (fun hg => (by have hg0 := hg; (try simp at hg); first | exact op_loadRef evG rfl rfl rfl | exact op_loadPtr evG memT (by rfl) (by rfl) (by rfl))) ?_ | refine JL_i rfl rfl rfl (fun hp hg => (by have hpg := Bool.and_eq_true_iff.2 ⟨hp, hg⟩; have hg0 := hg; (try simp at hg); first | exact op_loadRef evG rfl rfl rfl | exact op_loadPtr evG memT (by rfl) (by rfl) (by rfl))) ?_)
  (first | refine JL_i0 rfl rfl rfl (fun hg => (by have hg0 := hg; (try simp at hg); exact op_gtr evG evG)) ?_ | refine JL_i rfl rfl rfl (fun hp hg => (by have hpg := Bool.and_eq_true_iff.2 ⟨hp, hg⟩; have hg0 := hg; (try simp at hg); exact op_gtr evG evG)) ?_)
  refine JL_1 rfl (op_or (Ev.rfl' rfl) rfl (fun h => by first | exact SubL.rfl' | exact SubL.iteT (by first | (rw [h]; rfl) | (simp_all; done)) SubL.rfl')) ?_
  refine JL_1 rfl (op_move rfl) ?_
  (first | refine JL_i0 rfl rfl rfl (fun hg => (by have hg0 := hg; (try simp at hg); first | exact op_fieldPtr (k := 3) evG rfl rfl rfl rfl | exact op_fieldRefN (k := 3) evG rfl rfl rfl rfl nrmT)) ?_ | refine JL_i rfl rfl rfl (fun hp hg => (by have hpg := Bool.and_eq_true_iff.2 ⟨hp, hg⟩; have hg0 := hg; (try simp at hg); first | exact op_fieldPtr (k := 3) evG rfl rfl rfl rfl | exact op_fieldRefN (k := 3) evG rfl rfl rfl rfl nrmT)) ?_)
  (first | refine JL_i0 rfl rfl rfl (fun hg => (by have hg0 := hg; (try simp at hg); first | exact op_loadRef evG rfl rfl rfl | exact op_loadPtr evG memT (by rfl) (by rfl) (by rfl))) ?_ | refine JL_i rfl rfl rfl (fun hp hg => (by have hpg := Bool.and_eq_true_iff.2 ⟨hp, hg⟩; have hg0 := hg; (try simp at hg); first | exact op_loadRef evG rfl rfl rfl | exact op_loadPtr evG memT (by rfl) (by rfl) (by rfl))) ?_)
  (first | refine JL_i0 rfl rfl rfl (fun hg => (by have hg0 := hg; (try simp at hg); exact op_lss evG evG)) ?_ | refine JL_i rfl rfl rfl (fun hp hg => (by have hpg := Bool.and_eq_true_iff.2 ⟨hp, hg⟩; have hg0 := hg; (try simp at hg); exact op_lss evG evG)) ?_)
  refine JL_1 rfl (op_or (Ev.rfl' rfl) rfl (fun h => by first | exact SubL.rfl' | exact SubL.iteT (by first | (rw [h]; rfl) | (simp_all; done)) SubL.rfl')) ?_
  refine JL_1 rfl (op_move rfl) ?_
  (first | refine JL_i0 rfl rfl rfl (fun hg => (by have hg0 := hg; (try simp at hg); first | exact op_fieldPtr (k := 3) evG rfl rfl rfl rfl | exact op_fieldRefN (k := 3) evG rfl rfl rfl rfl nrmT)) ?_ | refine JL_i rfl rfl rfl (fun hp hg => (by have hpg := Bool.and_eq_true_iff.2 ⟨hp, hg⟩; have hg0 := hg; (try simp at hg); first | exact op_fieldPtr (k := 3) evG rfl rfl rfl rfl | exact op_fieldRefN (k := 3) evG rfl rfl rfl rfl nrmT)) ?_)
  (first | refine JL_i0 rfl rfl rfl (fun hg => (by have hg0 := hg; (try simp at hg); first | exact op_loadRef evG rfl rfl rfl | exact op_loadPtr evG memT (by rfl) (by rfl) (by rfl))) ?_ | refine JL_i rfl rfl rfl (fun hp hg => (by have hpg := Bool.and_eq_true_iff.2 ⟨hp, hg⟩; have hg0 := hg; (try simp at hg); first | exact op_loadRef evG rfl rfl rfl | exact op_loadPtr evG memT (by rfl) (by rfl) (by rfl))) ?_)
  (first | refine JL_i0 rfl rfl rfl (fun hg => (by have hg0 := hg; (try simp at hg); exact op_gtr evG evG)) ?_ | refine JL_i rfl rfl rfl (fun hp hg => (by have hpg := Bool.and_eq_true_iff.2 ⟨hp, hg⟩; have hg0 := hg; (try simp at hg); exact op_gtr evG evG)) ?_)
  refine JL_1 rfl (op_or (Ev.rfl' rfl) rfl (fun h => by first | exact SubL.rfl' | exact SubL.iteT (by first | (rw [h]; rfl) | (simp_all; done)) SubL.rfl')) ?_
  refine JL_1 rfl (op_move rfl) ?_
  (first | refine JL_i0 rfl rfl rfl (fun hg => (by have hg0 := hg; (try simp at hg); first | exact op_fieldPtr (k := 0) evG rfl rfl rfl rfl | exact op_fieldRefN (k := 0) evG rfl rfl rfl rfl nrmT)) ?_ | refine JL_i rfl rfl rfl (fun hp hg => (by have hpg := Bool.and_eq_true_iff.2 ⟨hp, hg⟩; have hg0 := hg; (try simp at hg); first | exact op_fieldPtr (k := 0) evG rfl rfl rfl rfl | exact op_fieldRefN (k := 0) evG rfl rfl rfl rfl nrmT)) ?_)
  (first | refine JL_i0 rfl rfl rfl (fun hg => (by have hg0 := hg; (try simp at hg); first | exact op_loadRef evG rfl rfl rfl | exact op_loadPtr evG memT (by rfl) (by rfl) (by rfl))) ?_ | refine JL_i rfl rfl rfl (fun hp hg => (by have hpg := Bool.and_eq_true_iff.2 ⟨hp, hg⟩; have hg0 := hg; (try simp at hg); first | exact op_loadRef evG rfl rfl rfl | exact op_loadPtr evG memT (by rfl) (by rfl) (by rfl))) ?_)
  (first | refine JL_i0 rfl rfl rfl (fun hg => (by have hg0 := hg; (try simp at hg); exact op_not evG)) ?_ | refine JL_i rfl rfl rfl (fun hp hg => (by have hpg := Bool.and_eq_true_iff.2 ⟨hp, hg⟩; have hg0 := hg; (try simp at hg); exact op_not evG)) ?_)
  (first | refine JL_i0 rfl rfl rfl (fun hg => (by have hg0 := hg; (try simp at hg); first | exact op_moveE (Ev.sub rfl (SubL.iteT (by first | assumption | (simp; done) | (simp; omega) | (simp_all; done)) SubL.rfl')) | exact op_moveE (Ev.rfl' rfl))) ?_ | refine JL_i rfl rfl rfl (fun hp hg => (by have hpg := Bool.and_eq_true_iff.2 ⟨hp, hg⟩; have hg0 := hg; (try simp at hg); first | exact op_moveE (Ev.sub rfl (SubL.iteT (by first | assumption | (simp; done) | (simp; omega) | (simp_all; done)) SubL.rfl')) | exact op_moveE (Ev.rfl' rfl))) ?_)
  (first | refine JL_i0 rfl rfl rfl (fun hg => (by have hg0 := hg; (try simp at hg); first | exact op_fieldPtr (k := 1) evG rfl rfl rfl rfl | exact op_fieldRefN (k := 1) evG rfl rfl rfl rfl nrmT)) ?_ | refine JL_i rfl rfl rfl (fun hp hg => (by have hpg := Bool.and_eq_true_iff.2 ⟨hp, hg⟩; have hg0 := hg; (try simp at hg); first | exact op_fieldPtr (k := 1) evG rfl rfl rfl rfl | exact op_fieldRefN (k := 1) evG rfl rfl rfl rfl nrmT)) ?_)
  (first | refine JL_i0 rfl rfl rfl (fun hg => (by have hg0 := hg; (try simp at hg); first | exact op_loadRef evG rfl rfl rfl | exact op_loadPtr evG memT (by rfl) (by rfl) (by rfl))) ?_ | refine JL_i rfl rfl rfl (fun hp hg => (by have hpg := Bool.and_eq_true_iff.2 ⟨hp, hg⟩; have hg0 := hg; (try simp at hg); first | exact op_loadRef evG rfl rfl rfl | exact op_loadPtr evG memT (by rfl) (by rfl) (by rfl))) ?_)
  (first | refine JL_i0 rfl rfl rfl (fun hg => (by have hg0 := hg; (try simp at hg); exact op_neq evG evG)) ?_ | refine JL_i rfl rfl rfl (fun hp hg => (by have hpg := Bool.and_eq_true_iff.2 ⟨hp, hg⟩; have hg0 := hg; (try simp at hg); exact op_neq evG evG)) ?_)
  (first | refine JL_i0 rfl rfl rfl (fun hg => (by have hg0 := hg; (try simp at hg); exact op_and evG rfl (fun h => by first | exact SubL.rfl' | exact SubL.iteT (by first | (rw [h]; rfl) | (simp_all; done)) SubL.rfl'))) ?_ | refine JL_i rfl rfl rfl (fun hp hg => (by have hpg := Bool.and_eq_true_iff.2 ⟨hp, hg⟩; have hg0 := hg; (try simp at hg); exact op_and evG rfl (fun h => by first | exact SubL.rfl' | exact SubL.iteT (by first | (rw [h]; rfl) | (simp_all; done)) SubL.rfl'))) ?_)
  refine JL_1 rfl (op_or (Ev.rfl' rfl) rfl (fun h => by first | exact SubL.rfl' | exact SubL.iteT (by first | (rw [h]; rfl) | (simp_all; done)) SubL.rfl')) ?_
  refine JL_nil ?_
  refine JQ_then ?_
  refine JC_cond (Ev.rfl' rfl) (fun h1 => ?_) (fun h1 => ?_)
  · have hb : badW p n = true := by rw [← badW_ref]; exact h1
    rw [writeN_b hb]
    refine JC_seq ?_
    refine JC_region ?_
    refine JL_1 rfl (op_buildN (qs := []) rfl rfl rfl rfl trivial (by rfl) nrmT) ?_
    refine JL_s0 (op_storeN (Ev.rfl' rfl) (Ev.rfl' rfl) cellsT replT nrmT (by rfl) (by rfl) (by rfl)) ?_
    refine JL_1 rfl (op_assign rfl) ?_
    refine JL_nil ?_
    refine JQ_then (JC_ret (JQ_then_ret ?_))
    exact JQ_ret (Bs := [IsPg Pg.nil, Is (.int .i64 1)]) Try.results25 ⟨⟨_, _, _, _, rfl, memT, rfl, .inr ⟨rfl, _, rfl, rfl, subT⟩⟩, ⟨⟨_, rfl, subT⟩, trivial⟩⟩ () SubL.rfl' (List.nil_sublist _)
  have hb : badW p n = false := by rw [← badW_ref]; exact h1
  clear h1
  obtain ⟨b0, b1, b2⟩ := badW_rng hb
  refine JC_skip (JQ_then (JC_seq ?_))
  refine JC_region ?_
  refine JL_1 rfl (by first | exact op_fieldPtr (k := 0) (Ev.rfl' rfl) rfl rfl rfl rfl | exact op_fieldRefN (k := 0) (Ev.rfl' rfl) rfl rfl rfl rfl nrmT) ?_
  refine JL_1 rfl (by first | exact op_loadRef (Ev.rfl' rfl) rfl rfl rfl | exact op_loadPtr (Ev.rfl' rfl) memT (by rfl) (by rfl) (by rfl)) ?_
  refine JL_1 rfl (by first | exact op_fieldPtr (k := 1) (Ev.rfl' rfl) rfl rfl rfl rfl | exact op_fieldRefN (k := 1) (Ev.rfl' rfl) rfl rfl rfl rfl nrmT) ?_
  refine JL_1 rfl (by first | exact op_loadRef (Ev.rfl' rfl) rfl rfl rfl | exact op_loadPtr (Ev.rfl' rfl) memT (by rfl) (by rfl) (by rfl)) ?_
  refine JL_1 rfl (op_buildN (qs := [(0, _), (1, _)]) rfl rfl rfl rfl ⟨⟨rfl, _, (Ev.rfl' rfl), cellsT⟩, ⟨⟨rfl, _, (Ev.rfl' rfl), cellsT⟩, trivial⟩⟩ (by rfl) nrmT) ?_
  (refine JL_n rfl (op_allocN rfl nrmT rfl) ?_; intro i6)
  refine JL_s0 (op_storeN (Ev.rfl' rfl) (Ev.rfl' rfl) cellsT replT nrmT (by rfl) (by rfl) (by rfl)) ?_
  refine JL_nil ?_
  refine JQ_then (JC_seq (JC_seq ?_))
  refine JC_region ?_
  refine JL_1 rfl (by first | exact op_fieldPtr (k := 0) (Ev.rfl' rfl) rfl rfl rfl rfl | exact op_fieldRefN (k := 0) (Ev.rfl' rfl) rfl rfl rfl rfl nrmT) ?_
  refine JL_1 rfl (by first | exact op_loadRef (Ev.rfl' rfl) rfl rfl rfl | exact op_loadPtr (Ev.rfl' rfl) memT (by rfl) (by rfl) (by rfl)) ?_
  refine JL_nil ?_
  refine JQ_then ?_
  refine JC_cutT (fun _ : Unit => True) (fun _ => [(3, Is (.pointer (some ⟨i3, 0, none⟩))), (4, Is (.pointer (some ⟨i4, 0, none⟩))), (6, Is (.pointer (some ⟨i6, 0, none⟩)))]) (fun _ => [blk i6 25 [Is (.int .i64 p.l), Is (.int .u64 (UV p.h)), Is (.int .u64 (UV (pinW n))), Is (.int .u64 0), Is (.int .u64 0), Is (.int .u64 0), Is (.int .u64 0), Is (.int .u64 0), Is (.int .u64 0)], blk i4 25 (tPg.cells Pg.nil), blk i3 52 (tNd.cells n)]) ?_ ?_
  rotate_left
  focus
    refine JC_cond (Ev.rfl' rfl) (fun h4 => ?_) (fun h4 => ?_)
    · have e1 : pinW n = n.ep.setWidth 64 + 1#64 := by unfold pinW; rw [if_pos h4]
      refine JC_region ?_
      refine JL_1 rfl (by first | exact op_fieldPtr (k := 1) (Ev.rfl' rfl) rfl rfl rfl rfl | exact op_fieldRefN (k := 1) (Ev.rfl' rfl) rfl rfl rfl rfl nrmT) ?_
      refine JL_1 rfl (by first | exact op_loadRef (Ev.rfl' rfl) rfl rfl rfl | exact op_loadPtr (Ev.rfl' rfl) memT (by rfl) (by rfl) (by rfl)) ?_
      refine JL_1 rfl (op_conv (Ev.rfl' rfl) rfl rfl convT) ?_
      refine JL_1 rfl (by first | exact op_binU ev64 ev64 (add_u64 _ _ _) | exact op_add (Ev.rfl' rfl) (Ev.rfl' rfl) wrapT) ?_
      refine JL_1 rfl (by first | exact op_fieldPtr (k := 2) (Ev.rfl' rfl) rfl rfl rfl rfl | exact op_fieldRefN (k := 2) (Ev.rfl' rfl) rfl rfl rfl rfl nrmT) ?_
      refine JL_1 rfl (op_indexArr (k := 0) (sz := 1) (Ev.rfl' rfl) (Ev.rfl' rfl) rfl rfl idxT (by first | decide | omega)) ?_
      refine JL_s0 (op_storeN (Ev.rfl' rfl) (Ev.rfl' rfl) cellsT replT nrmT (by rfl) (by rfl) (by rfl)) ?_
      refine JL_nil ?_
      rw [e1]
      exact JQ_meetP () trivial esubT lessT
    have e1 : pinW n = 0#64 := by unfold pinW; rw [if_neg (by rw [h4]; simp)]
    refine JC_skip ?_
    rw [e1]
    exact JQ_meetP () trivial esubT lessT
  rintro _ _
  refine JC_seq ?_
  refine JC_region ?_
  refine JL_1 rfl (by first | exact op_fieldPtr (k := 2) (Ev.rfl' rfl) rfl rfl rfl rfl | exact op_fieldRefN (k := 2) (Ev.rfl' rfl) rfl rfl rfl rfl nrmT) ?_
  refine JL_1 rfl (by first | exact op_loadRef (Ev.rfl' rfl) rfl rfl rfl | exact op_loadPtr (Ev.rfl' rfl) memT (by rfl) (by rfl) (by rfl)) ?_
  refine JL_1 rfl (op_conv (Ev.rfl' rfl) rfl rfl convT) ?_
  refine JL_1 rfl (by first | exact op_fieldPtr (k := 2) (Ev.rfl' rfl) rfl rfl rfl rfl | exact op_fieldRefN (k := 2) (Ev.rfl' rfl) rfl rfl rfl rfl nrmT) ?_
  refine JL_1 rfl (op_indexArr (k := 1) (sz := 1) (Ev.rfl' rfl) (Ev.rfl' rfl) rfl rfl idxT (by first | decide | omega)) ?_
  refine JL_s0 (op_storeN (Ev.rfl' rfl) (Ev.rfl' rfl) cellsT replT nrmT (by rfl) (by rfl) (by rfl)) ?_
  refine JL_nil ?_
  refine JQ_then (JC_seq ?_)
  refine JC_region ?_
  refine JL_1 rfl (by first | exact op_fieldPtr (k := 3) (Ev.rfl' rfl) rfl rfl rfl rfl | exact op_fieldRefN (k := 3) (Ev.rfl' rfl) rfl rfl rfl rfl nrmT) ?_
  refine JL_1 rfl (by first | exact op_loadRef (Ev.rfl' rfl) rfl rfl rfl | exact op_loadPtr (Ev.rfl' rfl) memT (by rfl) (by rfl) (by rfl)) ?_
  refine JL_1 rfl (op_conv (Ev.rfl' rfl) rfl rfl convT) ?_
  refine JL_set 59 (Is (.int .u64 (UV (BitVec.ofInt 64 n.inc)))) rfl (SubL.eq (congrArg Is (u64lit (by omega)))) ?_
  refine JL_1 rfl (by first | exact op_fieldPtr (k := 2) (Ev.rfl' rfl) rfl rfl rfl rfl | exact op_fieldRefN (k := 2) (Ev.rfl' rfl) rfl rfl rfl rfl nrmT) ?_
  refine JL_1 rfl (op_indexArr (k := 2) (sz := 1) (Ev.rfl' rfl) (Ev.rfl' rfl) rfl rfl idxT (by first | decide | omega)) ?_
  refine JL_s0 (op_storeN (Ev.rfl' rfl) (Ev.rfl' rfl) cellsT replT nrmT (by rfl) (by rfl) (by rfl)) ?_
  refine JL_nil ?_
  refine JQ_then (JC_seq (JC_seq ?_))
  refine JC_blkSub (b := i6) (As' := tPg.cells (pgK p n 0)) replT subsT ?_
  refine JC_region ?_
  refine JL_1 rfl (op_assign rfl) ?_
  refine JL_nil ?_
  refine JQ_then (JC_block ?_)
  refine JC_loopP (fun k : Nat => k ≤ 4 ∧ okR n k = true) (fun k => [(3, Is (.pointer (some ⟨i3, 0, none⟩))), (4, Is (.pointer (some ⟨i4, 0, none⟩))), (6, Is (.pointer (some ⟨i6, 0, none⟩))), (7, Is (.int .i64 (k : Nat)))]) (fun k => [blk i6 25 (tPg.cells (pgK p n k)), blk i4 25 (tPg.cells Pg.nil), blk i3 52 (tNd.cells n)]) (fun k => 4 - k) 0 ⟨Nat.zero_le _, rfl⟩ esubT lessT ?_
  rintro k ⟨hk, hok⟩
  refine JC_seq (JC_seq ?_)
  refine JC_region ?_
  refine JL_1 rfl (op_move rfl) ?_
  refine JL_1 rfl (op_lss (Ev.rfl' rfl) (Ev.rfl' rfl)) ?_
  refine JL_nil ?_
  refine JQ_then ?_
  refine JC_cond (Ev.rfl' rfl) (fun h9 => ?_) (fun h9 => ?_)
  · have hk4 : k = 0 ∨ k = 1 ∨ k = 2 ∨ k = 3 := by have := of_decide_eq_true h9; omega
    clear h9
    rcases hk4 with rfl | rfl | rfl | rfl
    all_goals
      refine JC_skip (JQ_then (JC_seq (JC_block (JC_seq ?_))))
      refine JC_region ?_
      refine JL_1 rfl (op_move rfl) ?_
      refine JL_1 rfl (by first | exact op_fieldPtr (k := 4) (Ev.rfl' rfl) rfl rfl rfl rfl | exact op_fieldRefN (k := 4) (Ev.rfl' rfl) rfl rfl rfl rfl nrmT) ?_
      refine JL_1 rfl (by first | exact op_indexArr (k := 0) (sz := 3) (Ev.rfl' rfl) (Ev.rfl' rfl) rfl rfl (by decide) (by decide) | exact op_indexArr (k := 1) (sz := 3) (Ev.rfl' rfl) (Ev.rfl' rfl) rfl rfl (by decide) (by decide) | exact op_indexArr (k := 2) (sz := 3) (Ev.rfl' rfl) (Ev.rfl' rfl) rfl rfl (by decide) (by decide) | exact op_indexArr (k := 3) (sz := 3) (Ev.rfl' rfl) (Ev.rfl' rfl) rfl rfl (by decide) (by decide)) ?_
      refine JL_1 rfl (by first | exact op_loadRefsN (n := 3) (Ev.rfl' rfl) rfl rfl rfl (by rfl) nrmT | exact op_loadPtrsN (n := 3) (Ev.rfl' rfl) memT (by rfl) (by rfl) (by rfl) (by rfl) nrmT) ?_
      (refine JL_n rfl (op_allocN rfl nrmT rfl) ?_; intro i8)
      refine JL_s0 (op_storeN (Ev.rfl' rfl) (Ev.rfl' rfl) cellsT replT nrmT (by rfl) (by rfl) (by rfl)) ?_
      refine JL_nil ?_
      refine JQ_then (JC_seq (JC_seq ?_))
      refine JC_region ?_
      refine JL_1 rfl (by first | exact op_loadRefsN (n := 3) (Ev.rfl' rfl) rfl rfl rfl (by rfl) nrmT | exact op_loadPtrsN (n := 3) (Ev.rfl' rfl) memT (by rfl) (by rfl) (by rfl) (by rfl) nrmT) ?_
      refine JL_1 rfl (op_buildN (qs := []) rfl rfl rfl rfl trivial (by rfl) nrmT) ?_
      refine JL_1 rfl (by first | exact op_cmpA (vs := Re.cells n.r0) (ws := Re.cells Re.nil) (Ev.rfl' rfl) evS (eqReR_guard _ _ _ n.r0 Re.nil) (eqReR_eql n.r0 Re.nil) | exact op_cmpA (vs := Re.cells n.r1) (ws := Re.cells Re.nil) (Ev.rfl' rfl) evS (eqReR_guard _ _ _ n.r1 Re.nil) (eqReR_eql n.r1 Re.nil) | exact op_cmpA (vs := Re.cells n.r2) (ws := Re.cells Re.nil) (Ev.rfl' rfl) evS (eqReR_guard _ _ _ n.r2 Re.nil) (eqReR_eql n.r2 Re.nil) | exact op_cmpA (vs := Re.cells n.r3) (ws := Re.cells Re.nil) (Ev.rfl' rfl) evS (eqReR_guard _ _ _ n.r3 Re.nil) (eqReR_eql n.r3 Re.nil)) ?_
      refine JL_nil ?_
      refine JQ_then ?_
      refine JC_cond (Ev.rfl' rfl) (fun h12 => ?_) (fun h12 => ?_)
      · have hz := nilB h12
        refine JC_exit (JQ_then_exit (JQ_hit (JQ_then ?_)))
        refine JC_region ?_
        refine JL_1 rfl (op_move rfl) ?_
        refine JL_1 rfl (op_add (Ev.rfl' rfl) (Ev.rfl' rfl) wrapT) ?_
        refine JL_1 rfl (op_assign rfl) ?_
        refine JL_nil ?_
        first | (refine JQ_blkSub (b := i6) (As' := tPg.cells (pgK p n 1)) replT (by rw [pgK_nil0 hz]; exact SubLs.rfl') ?_; exact JQ_roundP 1 ⟨by omega, okR_add0 hok (rwB_nil hz)⟩ (by omega) esubT lessT) | (refine JQ_blkSub (b := i6) (As' := tPg.cells (pgK p n 2)) replT (by rw [pgK_nil1 hz]; exact SubLs.rfl') ?_; exact JQ_roundP 2 ⟨by omega, okR_add1 hok (rwB_nil hz)⟩ (by omega) esubT lessT) | (refine JQ_blkSub (b := i6) (As' := tPg.cells (pgK p n 3)) replT (by rw [pgK_nil2 hz]; exact SubLs.rfl') ?_; exact JQ_roundP 3 ⟨by omega, okR_add2 hok (rwB_nil hz)⟩ (by omega) esubT lessT) | (refine JQ_blkSub (b := i6) (As' := tPg.cells (pgK p n 4)) replT (by rw [pgK_nil3 hz]; exact SubLs.rfl') ?_; exact JQ_roundP 4 ⟨by omega, okR_add3 hok (rwB_nil hz)⟩ (by omega) esubT lessT) | (refine JQ_blkSub (b := i6) (As' := tPg.cells (pgK p n 1)) replT (by rw [pgK_re0 hz]; exact subsT) ?_; exact JQ_roundP 1 ⟨by omega, okR_add0 hok (by rw [rwB_re hz]; simpa using h13)⟩ (by omega) esubT lessT) | (refine JQ_blkSub (b := i6) (As' := tPg.cells (pgK p n 2)) replT (by rw [pgK_re1 hz]; exact subsT) ?_; exact JQ_roundP 2 ⟨by omega, okR_add1 hok (by rw [rwB_re hz]; simpa using h13)⟩ (by omega) esubT lessT) | (refine JQ_blkSub (b := i6) (As' := tPg.cells (pgK p n 3)) replT (by rw [pgK_re2 hz]; exact subsT) ?_; exact JQ_roundP 3 ⟨by omega, okR_add2 hok (by rw [rwB_re hz]; simpa using h13)⟩ (by omega) esubT lessT) | (refine JQ_blkSub (b := i6) (As' := tPg.cells (pgK p n 4)) replT (by rw [pgK_re3 hz]; exact subsT) ?_; exact JQ_roundP 4 ⟨by omega, okR_add3 hok (by rw [rwB_re hz]; simpa using h13)⟩ (by omega) esubT lessT)
      have hz := nnilB h12
      refine JC_skip (JQ_then (JC_seq (JC_seq ?_)))
      refine JC_region ?_
      refine JL_1 rfl (by first | exact op_fieldPtr (k := 0) (Ev.rfl' rfl) rfl rfl rfl rfl | exact op_fieldRefN (k := 0) (Ev.rfl' rfl) rfl rfl rfl rfl nrmT) ?_
      refine JL_1 rfl (by first | exact op_loadRefsN (n := 2) (Ev.rfl' rfl) rfl rfl rfl (by rfl) nrmT | exact op_loadPtrsN (n := 2) (Ev.rfl' rfl) memT (by rfl) (by rfl) (by rfl) (by rfl) nrmT) ?_
      refine JL_1 rfl (op_call Try.call70 (ValidPR_ok _) ⟨evS, trivial⟩) ?_
      refine JL_1 rfl (op_not (Ev.rfl' rfl)) ?_
      refine JL_nil ?_
      refine JQ_then ?_
      refine JC_cond (Ev.rfl' rfl) (fun h13 => ?_) (fun h13 => ?_)
      · have hbad : okR n 4 = false := by first | exact okR_bad0 (by rw [rwB_re hz]; simpa using h13) | exact okR_bad1 (by rw [rwB_re hz]; simpa using h13) | exact okR_bad2 (by rw [rwB_re hz]; simpa using h13) | exact okR_bad3 (by rw [rwB_re hz]; simpa using h13)
        rw [writeN_x hb hbad]
        refine JC_seq ?_
        refine JC_region ?_
        refine JL_1 rfl (op_buildN (qs := []) rfl rfl rfl rfl trivial (by rfl) nrmT) ?_
        refine JL_s0 (op_storeN (Ev.rfl' rfl) (Ev.rfl' rfl) cellsT replT nrmT (by rfl) (by rfl) (by rfl)) ?_
        refine JL_1 rfl (op_assign rfl) ?_
        refine JL_nil ?_
        refine JQ_then (JC_ret (JQ_then_ret (JQ_block_ret (JQ_then_ret (JQ_then_ret (JQ_block_ret (JQ_then_ret ?_)))))))
        exact JQ_ret (Bs := [IsPg Pg.nil, Is (.int .i64 1)]) Try.results25 ⟨⟨_, _, _, _, rfl, memT, rfl, .inr ⟨rfl, _, rfl, rfl, subT⟩⟩, ⟨⟨_, rfl, subT⟩, trivial⟩⟩ () SubL.rfl' (List.nil_sublist _)
      refine JC_skip (JQ_then ?_)
      refine JC_dr rfl (by kernel_rfl) ?_
      refine JD_phase [0, 0, 1, 1, 1, 0, 1, 1, 0, 0, 0, 1, 1, 2] (by kernel_rfl) (by kernel_rfl) ?_
      refine PW_0 (op_move rfl) ?_
      refine PW_0 (op_add (Ev.rfl' rfl) (Ev.rfl' rfl) wrapT) ?_
      refine PW_1 (by first | exact op_fieldPtr (k := 0) (Ev.rfl' rfl) rfl rfl rfl rfl | exact op_fieldRefN (k := 0) (Ev.rfl' rfl) rfl rfl rfl rfl nrmT) ?_
      refine PW_1 (by first | exact op_loadRefsN (n := 2) (Ev.rfl' rfl) rfl rfl rfl (by rfl) nrmT | exact op_loadPtrsN (n := 2) (Ev.rfl' rfl) memT (by rfl) (by rfl) (by rfl) (by rfl) nrmT) ?_
      refine PW_1 (op_call Try.call74 (PackR_ok _) ⟨evS, trivial⟩) ?_
      refine PW_0 (op_conv (Ev.rfl' rfl) rfl rfl convT) ?_
      refine PW_1 (by first | exact op_fieldPtr (k := 2) (Ev.rfl' rfl) rfl rfl rfl rfl | exact op_fieldRefN (k := 2) (Ev.rfl' rfl) rfl rfl rfl rfl nrmT) ?_
      refine PW_1 (by first | exact op_loadRef (Ev.rfl' rfl) rfl rfl rfl | exact op_loadPtr (Ev.rfl' rfl) memT (by rfl) (by rfl) (by rfl)) ?_
      refine PW_0 (op_conv (Ev.rfl' rfl) rfl rfl convT) ?_
      refine PW_0 (by first | exact op_shlU (k := 32) ev64 (Ev.rfl' rfl) (by first | omega | exact UV_nonneg _) idxT | exact op_shl (Ev.rfl' rfl) (Ev.rfl' rfl) (by first | omega | exact UV_nonneg _) rfl) ?_
      refine PW_0 (by first | exact op_binU ev64 ev64 (add_u64 _ _ _) | exact op_add (Ev.rfl' rfl) (Ev.rfl' rfl) wrapT) ?_
      refine PW_1 (by first | exact op_fieldPtr (k := 2) (Ev.rfl' rfl) rfl rfl rfl rfl | exact op_fieldRefN (k := 2) (Ev.rfl' rfl) rfl rfl rfl rfl nrmT) ?_
      refine PW_1 (by first | exact op_indexArr (k := 3) (sz := 1) (Ev.rfl' rfl) (Ev.rfl' rfl) rfl rfl (by decide) (by decide) | exact op_indexArr (k := 4) (sz := 1) (Ev.rfl' rfl) (Ev.rfl' rfl) rfl rfl (by decide) (by decide) | exact op_indexArr (k := 5) (sz := 1) (Ev.rfl' rfl) (Ev.rfl' rfl) rfl rfl (by decide) (by decide) | exact op_indexArr (k := 6) (sz := 1) (Ev.rfl' rfl) (Ev.rfl' rfl) rfl rfl (by decide) (by decide)) ?_
      refine PW_2 (op_storeN (Ev.rfl' rfl) (Ev.rfl' rfl) cellsT replT nrmT (by rfl) (by rfl) (by rfl)) ?_
      refine PW_end ?_
      refine JD_end ?_
      refine JQ_block (JQ_then ?_)
      rw [add_or]
      refine JC_region ?_
      refine JL_1 rfl (op_move rfl) ?_
      refine JL_1 rfl (op_add (Ev.rfl' rfl) (Ev.rfl' rfl) wrapT) ?_
      refine JL_1 rfl (op_assign rfl) ?_
      refine JL_nil ?_
      first | (refine JQ_blkSub (b := i6) (As' := tPg.cells (pgK p n 1)) replT (by rw [pgK_nil0 hz]; exact SubLs.rfl') ?_; exact JQ_roundP 1 ⟨by omega, okR_add0 hok (rwB_nil hz)⟩ (by omega) esubT lessT) | (refine JQ_blkSub (b := i6) (As' := tPg.cells (pgK p n 2)) replT (by rw [pgK_nil1 hz]; exact SubLs.rfl') ?_; exact JQ_roundP 2 ⟨by omega, okR_add1 hok (rwB_nil hz)⟩ (by omega) esubT lessT) | (refine JQ_blkSub (b := i6) (As' := tPg.cells (pgK p n 3)) replT (by rw [pgK_nil2 hz]; exact SubLs.rfl') ?_; exact JQ_roundP 3 ⟨by omega, okR_add2 hok (rwB_nil hz)⟩ (by omega) esubT lessT) | (refine JQ_blkSub (b := i6) (As' := tPg.cells (pgK p n 4)) replT (by rw [pgK_nil3 hz]; exact SubLs.rfl') ?_; exact JQ_roundP 4 ⟨by omega, okR_add3 hok (rwB_nil hz)⟩ (by omega) esubT lessT) | (refine JQ_blkSub (b := i6) (As' := tPg.cells (pgK p n 1)) replT (by rw [pgK_re0 hz]; exact subsT) ?_; exact JQ_roundP 1 ⟨by omega, okR_add0 hok (by rw [rwB_re hz]; simpa using h13)⟩ (by omega) esubT lessT) | (refine JQ_blkSub (b := i6) (As' := tPg.cells (pgK p n 2)) replT (by rw [pgK_re1 hz]; exact subsT) ?_; exact JQ_roundP 2 ⟨by omega, okR_add1 hok (by rw [rwB_re hz]; simpa using h13)⟩ (by omega) esubT lessT) | (refine JQ_blkSub (b := i6) (As' := tPg.cells (pgK p n 3)) replT (by rw [pgK_re2 hz]; exact subsT) ?_; exact JQ_roundP 3 ⟨by omega, okR_add2 hok (by rw [rwB_re hz]; simpa using h13)⟩ (by omega) esubT lessT) | (refine JQ_blkSub (b := i6) (As' := tPg.cells (pgK p n 4)) replT (by rw [pgK_re3 hz]; exact subsT) ?_; exact JQ_roundP 4 ⟨by omega, okR_add3 hok (by rw [rwB_re hz]; simpa using h13)⟩ (by omega) esubT lessT)
  have hk4 : k = 4 := by have := of_decide_eq_false h9; omega
  subst hk4
  rw [writeN_0 hb hok]
  refine JC_exit (JQ_then_exit (JQ_then_exit (JQ_hit (JQ_then (JC_seq ?_)))))
  refine JC_region ?_
  refine JL_1 rfl (by first | exact op_loadRefsN (n := 9) (Ev.rfl' rfl) rfl rfl rfl (by rfl) nrmT | exact op_loadPtrsN (n := 9) (Ev.rfl' rfl) memT (by rfl) (by rfl) (by rfl) (by rfl) nrmT) ?_
  refine JL_s0 (op_storeN (Ev.rfl' rfl) (Ev.rfl' rfl) cellsT replT nrmT (by rfl) (by rfl) (by rfl)) ?_
  refine JL_1 rfl (op_assign rfl) ?_
  refine JL_nil ?_
  refine JQ_then (JC_ret ?_)
  exact JQ_ret (Bs := [IsPg (pgK p n 4), Is (.int .i64 0)]) Try.results25 ⟨⟨_, _, _, _, rfl, memT, rfl, .inr ⟨rfl, _, rfl, rfl, subT⟩⟩, ⟨⟨_, rfl, subT⟩, trivial⟩⟩ () SubL.rfl' (List.nil_sublist _)
end Go.Proofs.Ytpfojangcgffkaa
