/- Texts of this claim, laid together (part 4): walks of functions, what they compute, and plain laws of it. Own work. -/
import Derived.Test.YtmcaomdjlepapaaDoorRows
import Derived.ProofKit
import Derived.LaidMore
import Derived.OpenShut
import Derived.Stop.Joined
import Derived.Test.YtmcaomdjlepapaaDoorM3HashSlots
/- The walk of HashRoots. Own work. -/
namespace Go.Proofs.YtmcaomdjlepapaaDoor
open Go.RowKit
set_option linter.unusedVariables false
set_option linter.unusedSimpArgs false
set_option maxRecDepth 100000
def Pg.setd (p : Pg) (j : Nat) (x : BitVec 64) : Pg := match j with
  | 0 => { p with d0 := x }
  | 1 => { p with d1 := x }
  | 2 => { p with d2 := x }
  | 3 => { p with d3 := x }
  | 4 => { p with d4 := x }
  | 5 => { p with d5 := x }
  | _ => { p with d6 := x }
theorem setd_cells (p : Pg) {j : Nat} (x : BitVec 64) (hj : j < 7) : tPg.cells (p.setd j x) = ovr (tPg.cells p) (2 + j) [Is (.int .u64 (UV x))] := by
  match j, hj with
  | 0, _ => rfl
  | 1, _ => rfl
  | 2, _ => rfl
  | 3, _ => rfl
  | 4, _ => rfl
  | 5, _ => rfl
  | 6, _ => rfl
theorem data_cell (p : Pg) {j : Nat} (hj : j < 7) : ∃ x : BitVec 64, (tPg.cells p)[2 + j]? = some (Is (.int .u64 (UV x))) := by
  match j, hj with
  | 0, _ => exact ⟨_, rfl⟩
  | 1, _ => exact ⟨_, rfl⟩
  | 2, _ => exact ⟨_, rfl⟩
  | 3, _ => exact ⟨_, rfl⟩
  | 4, _ => exact ⟨_, rfl⟩
  | 5, _ => exact ⟨_, rfl⟩
  | 6, _ => exact ⟨_, rfl⟩
theorem tdiv_in {n : Int} (h : I64ok n) (k : Int) (hk : 1 ≤ k) : -9223372036854775808 ≤ n.tdiv k ∧ n.tdiv k ≤ 9223372036854775807 := by
  obtain ⟨h1, h2⟩ := h
  rcases Int.le_total 0 n with h0 | h0
  · rw [Int.tdiv_eq_ediv_of_nonneg h0]
    have a1 := Int.ediv_nonneg h0 (show 0 ≤ k by omega)
    have a2 := Int.ediv_le_self k h0
    omega
  · have e : n.tdiv k = -((-n).tdiv k) := by rw [Int.neg_tdiv]; simp
    rw [e, Int.tdiv_eq_ediv_of_nonneg (by omega)]
    have a1 := Int.ediv_nonneg (show 0 ≤ -n by omega) (show 0 ≤ k by omega)
    have a2 := Int.ediv_le_self k (show 0 ≤ -n by omega)
    omega
theorem write_ok {p : Pg} {r : Rt} (h : (writeR p r).2 = 0) : p.l = 96 ∧ rootB r = true ∧ writeR p r = (writeV p r, 0) := by
  unfold writeR at h ⊢
  cases hb : (p.l != 96 || !rootB r) with
  | true => rw [hb] at h; simp at h
  | false =>
    simp only [Bool.or_eq_false_iff] at hb
    refine ⟨by simpa using hb.1, by simpa using hb.2, ?_⟩
    simp
-- bodegalaw23.HashRoots: function 3
set_option maxHeartbeats 8000000 in
theorem HashRoots_ok (p : Pg) (r : Rt) (n : Int) (hn : I64ok n) : FnK Tryd.prog 3 gNone [IsPg p, IsRt r, Is (.int .i64 n)] (Is (.bool true)) := by
  have ht1 := tdiv_in hn 8 (by omega)
  have ht2 := tdiv_in hn 24 (by omega)
  refine Fn.enterN Tryd.func3 Tryd.ntmps3 rfl rfl ?_
  intro c hX
  refine JC_seq ?_
  refine JC_region ?_
  (refine JL_n rfl (op_box (Ev.rfl' rfl) cellsT) ?_; intro i3)
  (refine JL_n rfl (op_box (Ev.rfl' rfl) cellsT) ?_; intro i4)
  refine JL_1 rfl (op_assign rfl) ?_
  refine JL_nil ?_
  refine JQ_then (JC_seq (JC_seq ?_))
  refine JC_region ?_
  refine JL_1 rfl (op_move rfl) ?_
  refine JL_1 rfl (by first | ((refine op_call Tryd.call6 (PickH_ok _ _ ?_ ?_) ⟨evS, ⟨evS, trivial⟩⟩); all_goals (first | omega))) ?_
  refine JL_1 rfl (op_gtr (Ev.rfl' rfl) (Ev.rfl' rfl)) ?_
  refine JL_nil ?_
  refine JQ_then ?_
  refine JC_cutT (fun z : Pg × Rt => True) (fun z => [(2, Is (.int .i64 n)), (3, Is (.pointer (some ⟨i3, 0, none⟩))), (4, Is (.pointer (some ⟨i4, 0, none⟩)))]) (fun z => [blk i3 25 (tPg.cells z.1), blk i4 30 (tRt.cells z.2), gNone]) ?_ ?_
  rotate_left
  focus
    refine JC_cond (Ev.rfl' rfl) (fun h1 => ?_) (fun h1 => ?_)
    · refine JC_seq ?_
      refine JC_region ?_
      refine JL_1 rfl (by first | exact op_fieldPtr (k := 0) (Ev.rfl' rfl) rfl rfl rfl rfl | exact op_fieldRefN (k := 0) (Ev.rfl' rfl) rfl rfl rfl rfl nrmT) ?_
      refine JL_s0 (op_storeN (Ev.rfl' rfl) (Ev.rfl' rfl) cellsT replT nrmT (by rfl) (by rfl) (by rfl)) ?_
      refine JL_nil ?_
      refine JQ_then (JC_seq ?_)
      refine JC_region ?_
      refine JL_1 rfl (by first | exact op_fieldPtr (k := 2) (Ev.rfl' rfl) rfl rfl rfl rfl | exact op_fieldRefN (k := 2) (Ev.rfl' rfl) rfl rfl rfl rfl nrmT) ?_
      refine JL_1 rfl (by first | exact op_loadRef (Ev.rfl' rfl) rfl rfl rfl | exact op_loadPtr (Ev.rfl' rfl) memT (by rfl) (by rfl) (by rfl)) ?_
      refine JL_1 rfl (by first | ((refine op_call Tryd.call6 (PickH_ok _ _ ?_ ?_) ⟨evS, ⟨evS, trivial⟩⟩); all_goals (first | omega))) ?_
      refine JL_1 rfl (op_sub (Ev.rfl' rfl) (Ev.rfl' rfl) wrapT) ?_
      refine JL_1 rfl (by first | exact op_fieldPtr (k := 2) (Ev.rfl' rfl) rfl rfl rfl rfl | exact op_fieldRefN (k := 2) (Ev.rfl' rfl) rfl rfl rfl rfl nrmT) ?_
      refine JL_s0 (op_storeN (Ev.rfl' rfl) (Ev.rfl' rfl) cellsT replT nrmT (by rfl) (by rfl) (by rfl)) ?_
      refine JL_nil ?_
      refine JQ_then (JC_seq ?_)
      refine JC_region ?_
      refine JL_1 rfl (by first | exact op_fieldPtr (k := 0) (Ev.rfl' rfl) rfl rfl rfl rfl | exact op_fieldRefN (k := 0) (Ev.rfl' rfl) rfl rfl rfl rfl nrmT) ?_
      refine JL_1 rfl (by first | exact op_loadRefsN (n := 2) (Ev.rfl' rfl) rfl rfl rfl (by rfl) nrmT | exact op_loadPtrsN (n := 2) (Ev.rfl' rfl) memT (by rfl) (by rfl) (by rfl) (by rfl) nrmT) ?_
      refine JL_1 rfl (op_call Tryd.call7 (aim_ok _) ⟨evS, trivial⟩) ?_
      refine JL_ex 29 rfl (fun qf => ?_)
      refine JL_1 rfl (by first | exact op_fieldPtr (k := 0) (Ev.rfl' rfl) rfl rfl rfl rfl | exact op_fieldRefN (k := 0) (Ev.rfl' rfl) rfl rfl rfl rfl nrmT) ?_
      refine JL_s0 (op_storeN (Ev.rfl' rfl) (Ev.rfl' rfl) cellsT replT nrmT (by rfl) (by rfl) (by rfl)) ?_
      refine JL_nil ?_
      refine JQ_then (JC_seq (JC_seq ?_))
      refine JC_region ?_
      refine JL_1 rfl (op_assign rfl) ?_
      refine JL_nil ?_
      refine JQ_then (JC_block ?_)
      refine JC_loopP (fun z : Nat × Rt => z.1 ≤ 4) (fun z => [(2, Is (.int .i64 n)), (3, Is (.pointer (some ⟨i3, 0, none⟩))), (4, Is (.pointer (some ⟨i4, 0, none⟩))), (7, Is (.int .i64 (z.1 : Nat)))]) (fun z => [blk i3 25 (tPg.cells ⟨96, p.h, p.d0, p.d1, p.d2, p.d3, p.d4, p.d5, p.d6⟩), blk i4 30 (tRt.cells z.2), gNone]) (fun z => 4 - z.1) (0, ⟨qf, r.depth % 9 - 1, r.p0, r.p1, r.p2, r.p3⟩) (Nat.zero_le _) esubT lessT ?_
      rintro ⟨k, z⟩ hk
      dsimp only at hk ⊢
      refine JC_seq (JC_seq ?_)
      refine JC_region ?_
      refine JL_1 rfl (op_move rfl) ?_
      refine JL_1 rfl (op_lss (Ev.rfl' rfl) (Ev.rfl' rfl)) ?_
      refine JL_nil ?_
      refine JQ_then ?_
      refine JC_cond (Ev.rfl' rfl) (fun h6 => ?_) (fun h6 => ?_)
      · have hk4 : k = 0 ∨ k = 1 ∨ k = 2 ∨ k = 3 := by have := of_decide_eq_true h6; omega
        clear h6
        rcases hk4 with rfl | rfl | rfl | rfl
        all_goals
          refine JC_skip (JQ_then (JC_seq (JC_block ?_)))
          refine JC_region ?_
          refine JL_1 rfl (op_move rfl) ?_
          refine JL_1 rfl (op_move rfl) ?_
          refine JL_1 rfl (by first | exact op_fieldPtr (k := 3) (Ev.rfl' rfl) rfl rfl rfl rfl | exact op_fieldRefN (k := 3) (Ev.rfl' rfl) rfl rfl rfl rfl nrmT) ?_
          refine JL_1 rfl (op_indexArr (k := _) (sz := 2) (Ev.rfl' rfl) (Ev.rfl' rfl) rfl rfl idxT (by first | decide | omega)) ?_
          refine JL_1 rfl (by first | exact op_loadRefsN (n := 2) (Ev.rfl' rfl) rfl rfl rfl (by rfl) nrmT | exact op_loadPtrsN (n := 2) (Ev.rfl' rfl) memT (by rfl) (by rfl) (by rfl) (by rfl) nrmT) ?_
          refine JL_1 rfl (op_call Tryd.call7 (aim_ok _) ⟨evS, trivial⟩) ?_
          refine JL_ex 40 rfl (fun qk => ?_)
          refine JL_1 rfl (by first | exact op_fieldPtr (k := 3) (Ev.rfl' rfl) rfl rfl rfl rfl | exact op_fieldRefN (k := 3) (Ev.rfl' rfl) rfl rfl rfl rfl nrmT) ?_
          refine JL_1 rfl (op_indexArr (k := _) (sz := 2) (Ev.rfl' rfl) (Ev.rfl' rfl) rfl rfl idxT (by first | decide | omega)) ?_
          refine JL_s0 (op_storeN (Ev.rfl' rfl) (Ev.rfl' rfl) cellsT replT nrmT (by rfl) (by rfl) (by rfl)) ?_
          refine JL_nil ?_
          refine JQ_block (JQ_then ?_)
          refine JC_region ?_
          refine JL_1 rfl (op_move rfl) ?_
          refine JL_1 rfl (op_add (Ev.rfl' rfl) (Ev.rfl' rfl) wrapT) ?_
          refine JL_1 rfl (op_assign rfl) ?_
          refine JL_nil ?_
          first | exact JQ_roundP (1, ⟨z.first, z.depth, qk, z.p1, z.p2, z.p3⟩) (by dsimp only; omega) (by dsimp only; omega) esubT lessT | exact JQ_roundP (2, ⟨z.first, z.depth, z.p0, qk, z.p2, z.p3⟩) (by dsimp only; omega) (by dsimp only; omega) esubT lessT | exact JQ_roundP (3, ⟨z.first, z.depth, z.p0, z.p1, qk, z.p3⟩) (by dsimp only; omega) (by dsimp only; omega) esubT lessT | exact JQ_roundP (4, ⟨z.first, z.depth, z.p0, z.p1, z.p2, qk⟩) (by dsimp only; omega) (by dsimp only; omega) esubT lessT
      refine JC_exit (JQ_then_exit (JQ_then_exit (JQ_hit (JQ_then (JC_seq ?_)))))
      refine JC_region ?_
      refine JL_1 rfl (op_move rfl) ?_
      refine JL_1 rfl (op_rem (Ev.rfl' rfl) (Ev.rfl' rfl) (by omega) rfl) ?_
      refine JL_1 rfl (op_eql (Ev.rfl' rfl) (Ev.rfl' rfl)) ?_
      refine JL_nil ?_
      refine JQ_then ?_
      refine JC_cond (Ev.rfl' rfl) (fun h9 => ?_) (fun h9 => ?_)
      · refine JC_region ?_
        refine JL_1 rfl (op_buildN (qs := []) rfl rfl rfl rfl trivial (by rfl) nrmT) ?_
        refine JL_s0 (op_storeN (Ev.rfl' rfl) (Ev.rfl' rfl) cellsT replT nrmT (by rfl) (by rfl) (by rfl)) ?_
        refine JL_nil ?_
        exact JQ_meetP (⟨96, p.h, p.d0, p.d1, p.d2, p.d3, p.d4, p.d5, p.d6⟩, Rt.nil) trivial esubT lessT
      refine JC_skip ?_
      exact JQ_meetP (⟨96, p.h, p.d0, p.d1, p.d2, p.d3, p.d4, p.d5, p.d6⟩, z) trivial esubT lessT
    refine JC_skip ?_
    exact JQ_meetP (p, r) trivial esubT lessT
  rintro ⟨q, s⟩ _
  dsimp only
  refine JC_seq ?_
  refine JC_region ?_
  refine JL_1 rfl (by first | exact op_loadRefsN (n := 9) (Ev.rfl' rfl) rfl rfl rfl (by rfl) nrmT | exact op_loadPtrsN (n := 9) (Ev.rfl' rfl) memT (by rfl) (by rfl) (by rfl) (by rfl) nrmT) ?_
  refine JL_1 rfl (by first | ((refine op_callK Tryd.call8 (ReadRoot_ok _) ⟨evS, trivial⟩ memT))) ?_
  refine JL_1 rfl (op_move rfl) ?_
  refine JL_1 rfl (op_extract (Ev.rfl' rfl) rfl) ?_
  refine JL_1 rfl (op_extract (Ev.rfl' rfl) rfl) ?_
  (refine JL_n rfl (op_allocN rfl nrmT rfl) ?_; intro i8)
  refine JL_s0 (op_storeN (Ev.rfl' rfl) (Ev.rfl' rfl) cellsT replT nrmT (by rfl) (by rfl) (by rfl)) ?_
  refine JL_1 rfl (op_assign rfl) ?_
  refine JL_nil ?_
  refine JQ_then (JC_seq ?_)
  refine JC_region ?_
  refine JL_1 rfl (by first | exact op_loadRefsN (n := 9) (Ev.rfl' rfl) rfl rfl rfl (by rfl) nrmT | exact op_loadPtrsN (n := 9) (Ev.rfl' rfl) memT (by rfl) (by rfl) (by rfl) (by rfl) nrmT) ?_
  refine JL_1 rfl (op_call Tryd.call9 (ReadRootR_ok _) ⟨evS, trivial⟩) ?_
  refine JL_1 rfl (op_move rfl) ?_
  refine JL_1 rfl (op_extract (Ev.rfl' rfl) rfl) ?_
  refine JL_1 rfl (op_extract (Ev.rfl' rfl) rfl) ?_
  (refine JL_n rfl (op_allocN rfl nrmT rfl) ?_; intro i10)
  refine JL_s0 (op_storeN (Ev.rfl' rfl) (Ev.rfl' rfl) cellsT replT nrmT (by rfl) (by rfl) (by rfl)) ?_
  refine JL_1 rfl (op_assign rfl) ?_
  refine JL_nil ?_
  refine JQ_then (JC_seq ?_)
  refine JC_region ?_
  refine JL_1 rfl (by first | exact op_loadRefsN (n := 9) (Ev.rfl' rfl) rfl rfl rfl (by rfl) nrmT | exact op_loadPtrsN (n := 9) (Ev.rfl' rfl) memT (by rfl) (by rfl) (by rfl) (by rfl) nrmT) ?_
  refine JL_1 rfl (by first | exact op_loadRefsN (n := 11) (Ev.rfl' rfl) rfl rfl rfl (by rfl) nrmT | exact op_loadPtrsN (n := 11) (Ev.rfl' rfl) memT (by rfl) (by rfl) (by rfl) (by rfl) nrmT) ?_
  refine JL_1 rfl (by first | ((refine op_callK Tryd.call10 (WriteRoot_ok _ _) ⟨evS, ⟨evS, trivial⟩⟩ memT))) ?_
  refine JL_1 rfl (op_move rfl) ?_
  refine JL_1 rfl (op_extract (Ev.rfl' rfl) rfl) ?_
  refine JL_1 rfl (op_extract (Ev.rfl' rfl) rfl) ?_
  (refine JL_n rfl (op_allocN rfl nrmT rfl) ?_; intro i12)
  refine JL_s0 (op_storeN (Ev.rfl' rfl) (Ev.rfl' rfl) cellsT replT nrmT (by rfl) (by rfl) (by rfl)) ?_
  refine JL_1 rfl (op_assign rfl) ?_
  refine JL_nil ?_
  refine JQ_then (JC_seq ?_)
  refine JC_dr rfl (by kernel_rfl) ?_
  refine JD_stretch 10 (by kernel_rfl) ?_
  refine JW_1 (by first | exact op_loadRefsN (n := 9) (Ev.rfl' rfl) rfl rfl rfl (by rfl) nrmT | exact op_loadPtrsN (n := 9) (Ev.rfl' rfl) memT (by rfl) (by rfl) (by rfl) (by rfl) nrmT) ?_
  refine JW_1 (by first | exact op_loadRefsN (n := 11) (Ev.rfl' rfl) rfl rfl rfl (by rfl) nrmT | exact op_loadPtrsN (n := 11) (Ev.rfl' rfl) memT (by rfl) (by rfl) (by rfl) (by rfl) nrmT) ?_
  refine JW_1 (op_call Tryd.call12 (root_ok2 _) ⟨evS, trivial⟩) ?_
  refine JW_1 (op_call Tryd.call11 (WriteRootR_ok _ _) ⟨evS, ⟨evS, trivial⟩⟩) ?_
  refine JW_1 (op_move rfl) ?_
  refine JW_1 (op_extract (Ev.rfl' rfl) rfl) ?_
  refine JW_1 (op_extract (Ev.rfl' rfl) rfl) ?_
  refine JW_n (op_allocN rfl nrmT rfl) ?_
  refine JW_write rfl rfl rfl (by kernel_rfl) (op_storeWN evS cellsT rfl rfl rfl nrmT) ?_
  refine JW_1 (op_assign rfl) ?_
  refine ⟨rfl, ?_⟩
  intro i14
  refine JD_end ?_
  refine JQ_then (JC_seq (JC_seq ?_))
  refine JC_dr rfl (by kernel_rfl) ?_
  refine JD_stretch 24 (by kernel_rfl) ?_
  refine JW_1 (op_call Tryd.call13 (awakeH_ok) trivial) ?_
  refine JW_1 (op_not (Ev.rfl' rfl)) ?_
  refine JW_1 (op_move rfl) ?_
  (first | refine JW_i0 rfl rfl (fun hg => (by have hg0 := hg; (try simp at hg); first | exact op_loadRefsN (n := 11) evG rfl rfl rfl (by rfl) nrmT | exact op_loadPtrsN (n := 11) evG memT (by rfl) (by rfl) (by rfl) (by rfl) nrmT)) ?_ | refine JW_i rfl rfl (fun hp hg => (by have hpg := Bool.and_eq_true_iff.2 ⟨hp, hg⟩; have hg0 := hg; (try simp at hg); first | exact op_loadRefsN (n := 11) evG rfl rfl rfl (by rfl) nrmT | exact op_loadPtrsN (n := 11) evG memT (by rfl) (by rfl) (by rfl) (by rfl) nrmT)) ?_)
  (first | refine JW_i0 rfl rfl (fun hg => (by have hg0 := hg; (try simp at hg); exact op_call Tryd.call12 (root_ok2 _) ⟨evS, trivial⟩)) ?_ | refine JW_i rfl rfl (fun hp hg => (by have hpg := Bool.and_eq_true_iff.2 ⟨hp, hg⟩; have hg0 := hg; (try simp at hg); exact op_call Tryd.call12 (root_ok2 _) ⟨evS, trivial⟩)) ?_)
  (first | refine JW_i0 rfl rfl (fun hg => (by have hg0 := hg; (try simp at hg); first | exact op_loadRefsN (n := 11) evG rfl rfl rfl (by rfl) nrmT | exact op_loadPtrsN (n := 11) evG memT (by rfl) (by rfl) (by rfl) (by rfl) nrmT)) ?_ | refine JW_i rfl rfl (fun hp hg => (by have hpg := Bool.and_eq_true_iff.2 ⟨hp, hg⟩; have hg0 := hg; (try simp at hg); first | exact op_loadRefsN (n := 11) evG rfl rfl rfl (by rfl) nrmT | exact op_loadPtrsN (n := 11) evG memT (by rfl) (by rfl) (by rfl) (by rfl) nrmT)) ?_)
  (first | refine JW_i0 rfl rfl (fun hg => (by have hg0 := hg; (try simp at hg); exact op_cmpA (vs := Rt.cells (readR q).1) (ws := Rt.cells (readR q).1) evG evG (eqRtR_guard _ _ _ (readR q).1 (readR q).1) (eqRtR_neq (readR q).1 (readR q).1))) ?_ | refine JW_i rfl rfl (fun hp hg => (by have hpg := Bool.and_eq_true_iff.2 ⟨hp, hg⟩; have hg0 := hg; (try simp at hg); exact op_cmpA (vs := Rt.cells (readR q).1) (ws := Rt.cells (readR q).1) evG evG (eqRtR_guard _ _ _ (readR q).1 (readR q).1) (eqRtR_neq (readR q).1 (readR q).1))) ?_)
  refine JW_1 (op_or (Ev.rfl' rfl) rfl (fun h => by first | exact SubL.rfl' | exact SubL.iteT (by first | (rw [h]; rfl) | (simp_all; done)) SubL.rfl')) ?_
  refine JW_1 (op_move rfl) ?_
  (first | refine JW_i0 rfl rfl (fun hg => (by have hg0 := hg; (try simp at hg); first | exact op_moveE (Ev.sub rfl (SubL.iteT (by first | assumption | (simp; done) | (simp; omega) | (simp_all; done)) SubL.rfl')) | exact op_moveE (Ev.rfl' rfl))) ?_ | refine JW_i rfl rfl (fun hp hg => (by have hpg := Bool.and_eq_true_iff.2 ⟨hp, hg⟩; have hg0 := hg; (try simp at hg); first | exact op_moveE (Ev.sub rfl (SubL.iteT (by first | assumption | (simp; done) | (simp; omega) | (simp_all; done)) SubL.rfl')) | exact op_moveE (Ev.rfl' rfl))) ?_)
  (first | refine JW_i0 rfl rfl (fun hg => (by have hg0 := hg; (try simp at hg); first | exact op_moveE (Ev.sub rfl (SubL.iteT (by first | assumption | (simp; done) | (simp; omega) | (simp_all; done)) SubL.rfl')) | exact op_moveE (Ev.rfl' rfl))) ?_ | refine JW_i rfl rfl (fun hp hg => (by have hpg := Bool.and_eq_true_iff.2 ⟨hp, hg⟩; have hg0 := hg; (try simp at hg); first | exact op_moveE (Ev.sub rfl (SubL.iteT (by first | assumption | (simp; done) | (simp; omega) | (simp_all; done)) SubL.rfl')) | exact op_moveE (Ev.rfl' rfl))) ?_)
  (first | refine JW_i0 rfl rfl (fun hg => (by have hg0 := hg; (try simp at hg); exact op_neq evG evG)) ?_ | refine JW_i rfl rfl (fun hp hg => (by have hpg := Bool.and_eq_true_iff.2 ⟨hp, hg⟩; have hg0 := hg; (try simp at hg); exact op_neq evG evG)) ?_)
  refine JW_1 (op_or (Ev.rfl' rfl) rfl (fun h => by first | exact SubL.rfl' | exact SubL.iteT (by first | (rw [h]; rfl) | (simp_all; done)) SubL.rfl')) ?_
  refine JW_1 (op_move rfl) ?_
  (first | refine JW_i0 rfl rfl (fun hg => (by have hg0 := hg; (try simp at hg); first | exact op_loadRefsN (n := 9) evG rfl rfl rfl (by rfl) nrmT | exact op_loadPtrsN (n := 9) evG memT (by rfl) (by rfl) (by rfl) (by rfl) nrmT)) ?_ | refine JW_i rfl rfl (fun hp hg => (by have hpg := Bool.and_eq_true_iff.2 ⟨hp, hg⟩; have hg0 := hg; (try simp at hg); first | exact op_loadRefsN (n := 9) evG rfl rfl rfl (by rfl) nrmT | exact op_loadPtrsN (n := 9) evG memT (by rfl) (by rfl) (by rfl) (by rfl) nrmT)) ?_)
  (first | refine JW_i0 rfl rfl (fun hg => (by have hg0 := hg; (try simp at hg); first | exact op_loadRefsN (n := 9) evG rfl rfl rfl (by rfl) nrmT | exact op_loadPtrsN (n := 9) evG memT (by rfl) (by rfl) (by rfl) (by rfl) nrmT)) ?_ | refine JW_i rfl rfl (fun hp hg => (by have hpg := Bool.and_eq_true_iff.2 ⟨hp, hg⟩; have hg0 := hg; (try simp at hg); first | exact op_loadRefsN (n := 9) evG rfl rfl rfl (by rfl) nrmT | exact op_loadPtrsN (n := 9) evG memT (by rfl) (by rfl) (by rfl) (by rfl) nrmT)) ?_)
  (first | refine JW_i0 rfl rfl (fun hg => (by have hg0 := hg; (try simp at hg); exact op_call Tryd.call14 (same_refl _) ⟨evS, ⟨evS, trivial⟩⟩)) ?_ | refine JW_i rfl rfl (fun hp hg => (by have hpg := Bool.and_eq_true_iff.2 ⟨hp, hg⟩; have hg0 := hg; (try simp at hg); exact op_call Tryd.call14 (same_refl _) ⟨evS, ⟨evS, trivial⟩⟩)) ?_)
  (first | refine JW_i0 rfl rfl (fun hg => (by have hg0 := hg; (try simp at hg); exact op_not evG)) ?_ | refine JW_i rfl rfl (fun hp hg => (by have hpg := Bool.and_eq_true_iff.2 ⟨hp, hg⟩; have hg0 := hg; (try simp at hg); exact op_not evG)) ?_)
  refine JW_1 (op_or (Ev.rfl' rfl) rfl (fun h => by first | exact SubL.rfl' | exact SubL.iteT (by first | (rw [h]; rfl) | (simp_all; done)) SubL.rfl')) ?_
  refine JW_1 (op_move rfl) ?_
  (first | refine JW_i0 rfl rfl (fun hg => (by have hg0 := hg; (try simp at hg); first | exact op_moveE (Ev.sub rfl (SubL.iteT (by first | assumption | (simp; done) | (simp; omega) | (simp_all; done)) SubL.rfl')) | exact op_moveE (Ev.rfl' rfl))) ?_ | refine JW_i rfl rfl (fun hp hg => (by have hpg := Bool.and_eq_true_iff.2 ⟨hp, hg⟩; have hg0 := hg; (try simp at hg); first | exact op_moveE (Ev.sub rfl (SubL.iteT (by first | assumption | (simp; done) | (simp; omega) | (simp_all; done)) SubL.rfl')) | exact op_moveE (Ev.rfl' rfl))) ?_)
  (first | refine JW_i0 rfl rfl (fun hg => (by have hg0 := hg; (try simp at hg); first | exact op_moveE (Ev.sub rfl (SubL.iteT (by first | assumption | (simp; done) | (simp; omega) | (simp_all; done)) SubL.rfl')) | exact op_moveE (Ev.rfl' rfl))) ?_ | refine JW_i rfl rfl (fun hp hg => (by have hpg := Bool.and_eq_true_iff.2 ⟨hp, hg⟩; have hg0 := hg; (try simp at hg); first | exact op_moveE (Ev.sub rfl (SubL.iteT (by first | assumption | (simp; done) | (simp; omega) | (simp_all; done)) SubL.rfl')) | exact op_moveE (Ev.rfl' rfl))) ?_)
  (first | refine JW_i0 rfl rfl (fun hg => (by have hg0 := hg; (try simp at hg); exact op_neq evG evG)) ?_ | refine JW_i rfl rfl (fun hp hg => (by have hpg := Bool.and_eq_true_iff.2 ⟨hp, hg⟩; have hg0 := hg; (try simp at hg); exact op_neq evG evG)) ?_)
  refine JW_1 (op_or (Ev.rfl' rfl) rfl (fun h => by first | exact SubL.rfl' | exact SubL.iteT (by first | (rw [h]; rfl) | (simp_all; done)) SubL.rfl')) ?_
  refine ⟨rfl, ?_⟩
  refine JD_end ?_
  refine JQ_then ?_
  refine JC_cond (Ev.rfl' rfl) (fun h15 => ?_) (fun h15 => ?_)
  · exfalso; simp at h15
  clear h15
  refine JC_skip (JQ_then (JC_seq (JC_seq ?_)))
  refine JC_region ?_
  refine JL_1 rfl (op_move rfl) ?_
  refine JL_1 rfl (op_neq (Ev.rfl' rfl) (Ev.rfl' rfl)) ?_
  refine JL_nil ?_
  refine JQ_then ?_
  refine JC_cond (Ev.rfl' rfl) (fun h17 => ?_) (fun h17 => ?_)
  · refine JC_seq ?_
    refine JC_region ?_
    refine JL_1 rfl (op_assign rfl) ?_
    refine JL_nil ?_
    refine JQ_then (JC_ret (JQ_then_ret ?_))
    refine JQ_ret1 Tryd.results3 rfl () (SubL.eq ?_) (List.nil_sublist _)
    rfl
  obtain ⟨hl, hv, hw⟩ := write_ok (p := q) (r := s) (by simpa using h17)
  clear h17
  refine JC_blkEq (b := i12) replT (show tPg.cells (writeR q s).1 = tPg.cells (writeV q s) by rw [hw]) ?_
  refine JC_skip (JQ_then (JC_seq ?_))
  refine JC_region ?_
  refine JL_1 rfl (by first | exact op_loadRefsN (n := 9) (Ev.rfl' rfl) rfl rfl rfl (by rfl) nrmT | exact op_loadPtrsN (n := 9) (Ev.rfl' rfl) memT (by rfl) (by rfl) (by rfl) (by rfl) nrmT) ?_
  refine JL_1 rfl (by first | ((refine op_callK Tryd.call8 (ReadRoot_ok (writeV q s)) ⟨evS, trivial⟩ memT))) ?_
  refine JL_1 rfl (op_move rfl) ?_
  refine JL_1 rfl (op_extract (Ev.rfl' rfl) rfl) ?_
  refine JL_1 rfl (op_extract (Ev.rfl' rfl) rfl) ?_
  (refine JL_n rfl (op_allocN rfl nrmT rfl) ?_; intro i16)
  refine JL_s0 (op_storeN (Ev.rfl' rfl) (Ev.rfl' rfl) cellsT replT nrmT (by rfl) (by rfl) (by rfl)) ?_
  refine JL_1 rfl (op_assign rfl) ?_
  refine JL_nil ?_
  refine JQ_then (JC_seq (JC_seq ?_))
  rw [back_root hl hv]
  refine JC_region ?_
  refine JL_1 rfl (op_move rfl) ?_
  refine JL_1 rfl (op_neq (Ev.rfl' rfl) (Ev.rfl' rfl)) ?_
  refine JL_1 rfl (op_move rfl) ?_
  (first | refine JL_i0 rfl rfl rfl (fun hg => (by have hg0 := hg; (try simp at hg); first | exact op_loadRefsN (n := 11) evG rfl rfl rfl (by rfl) nrmT | exact op_loadPtrsN (n := 11) evG memT (by rfl) (by rfl) (by rfl) (by rfl) nrmT)) ?_ | refine JL_i rfl rfl rfl (fun hp hg => (by have hpg := Bool.and_eq_true_iff.2 ⟨hp, hg⟩; have hg0 := hg; (try simp at hg); first | exact op_loadRefsN (n := 11) evG rfl rfl rfl (by rfl) nrmT | exact op_loadPtrsN (n := 11) evG memT (by rfl) (by rfl) (by rfl) (by rfl) nrmT)) ?_)
  (first | refine JL_i0 rfl rfl rfl (fun hg => (by have hg0 := hg; (try simp at hg); first | exact op_loadRefsN (n := 11) evG rfl rfl rfl (by rfl) nrmT | exact op_loadPtrsN (n := 11) evG memT (by rfl) (by rfl) (by rfl) (by rfl) nrmT)) ?_ | refine JL_i rfl rfl rfl (fun hp hg => (by have hpg := Bool.and_eq_true_iff.2 ⟨hp, hg⟩; have hg0 := hg; (try simp at hg); first | exact op_loadRefsN (n := 11) evG rfl rfl rfl (by rfl) nrmT | exact op_loadPtrsN (n := 11) evG memT (by rfl) (by rfl) (by rfl) (by rfl) nrmT)) ?_)
  (first | refine JL_i0 rfl rfl rfl (fun hg => (by have hg0 := hg; (try simp at hg); exact op_cmpA (vs := Rt.cells s) (ws := Rt.cells s) evG evG (eqRt_guard _ _ _ s s) (eqRt_neq s s))) ?_ | refine JL_i rfl rfl rfl (fun hp hg => (by have hpg := Bool.and_eq_true_iff.2 ⟨hp, hg⟩; have hg0 := hg; (try simp at hg); exact op_cmpA (vs := Rt.cells s) (ws := Rt.cells s) evG evG (eqRt_guard _ _ _ s s) (eqRt_neq s s))) ?_)
  refine JL_1 rfl (op_or (Ev.rfl' rfl) rfl (fun h => by first | exact SubL.rfl' | exact SubL.iteT (by first | (rw [h]; rfl) | (simp_all; done)) SubL.rfl')) ?_
  refine JL_1 rfl (op_move rfl) ?_
  (first | refine JL_i0 rfl rfl rfl (fun hg => (by have hg0 := hg; (try simp at hg); first | exact op_fieldPtr (k := 2) evG rfl rfl rfl rfl | exact op_fieldRefN (k := 2) evG rfl rfl rfl rfl nrmT)) ?_ | refine JL_i rfl rfl rfl (fun hp hg => (by have hpg := Bool.and_eq_true_iff.2 ⟨hp, hg⟩; have hg0 := hg; (try simp at hg); first | exact op_fieldPtr (k := 2) evG rfl rfl rfl rfl | exact op_fieldRefN (k := 2) evG rfl rfl rfl rfl nrmT)) ?_)
  (first | refine JL_i0 rfl rfl rfl (fun hg => (by have hg0 := hg; (try simp at hg); exact op_indexArr (k := 0) (sz := 1) evG evG rfl rfl idxT (by first | decide | omega))) ?_ | refine JL_i rfl rfl rfl (fun hp hg => (by have hpg := Bool.and_eq_true_iff.2 ⟨hp, hg⟩; have hg0 := hg; (try simp at hg); exact op_indexArr (k := 0) (sz := 1) evG evG rfl rfl idxT (by first | decide | omega))) ?_)
  (first | refine JL_i0 rfl rfl rfl (fun hg => (by have hg0 := hg; (try simp at hg); first | exact op_loadRef evG rfl rfl rfl | exact op_loadPtr evG memT (by rfl) (by rfl) (by rfl))) ?_ | refine JL_i rfl rfl rfl (fun hp hg => (by have hpg := Bool.and_eq_true_iff.2 ⟨hp, hg⟩; have hg0 := hg; (try simp at hg); first | exact op_loadRef evG rfl rfl rfl | exact op_loadPtr evG memT (by rfl) (by rfl) (by rfl))) ?_)
  (first | refine JL_i0 rfl rfl rfl (fun hg => (by have hg0 := hg; (try simp at hg); first | exact op_fieldPtr (k := 2) evG rfl rfl rfl rfl | exact op_fieldRefN (k := 2) evG rfl rfl rfl rfl nrmT)) ?_ | refine JL_i rfl rfl rfl (fun hp hg => (by have hpg := Bool.and_eq_true_iff.2 ⟨hp, hg⟩; have hg0 := hg; (try simp at hg); first | exact op_fieldPtr (k := 2) evG rfl rfl rfl rfl | exact op_fieldRefN (k := 2) evG rfl rfl rfl rfl nrmT)) ?_)
  (first | refine JL_i0 rfl rfl rfl (fun hg => (by have hg0 := hg; (try simp at hg); exact op_indexArr (k := 0) (sz := 1) evG evG rfl rfl idxT (by first | decide | omega))) ?_ | refine JL_i rfl rfl rfl (fun hp hg => (by have hpg := Bool.and_eq_true_iff.2 ⟨hp, hg⟩; have hg0 := hg; (try simp at hg); exact op_indexArr (k := 0) (sz := 1) evG evG rfl rfl idxT (by first | decide | omega))) ?_)
  (first | refine JL_i0 rfl rfl rfl (fun hg => (by have hg0 := hg; (try simp at hg); first | exact op_loadRef evG rfl rfl rfl | exact op_loadPtr evG memT (by rfl) (by rfl) (by rfl))) ?_ | refine JL_i rfl rfl rfl (fun hp hg => (by have hpg := Bool.and_eq_true_iff.2 ⟨hp, hg⟩; have hg0 := hg; (try simp at hg); first | exact op_loadRef evG rfl rfl rfl | exact op_loadPtr evG memT (by rfl) (by rfl) (by rfl))) ?_)
  (first | refine JL_i0 rfl rfl rfl (fun hg => (by have hg0 := hg; (try simp at hg); exact op_neq evG evG)) ?_ | refine JL_i rfl rfl rfl (fun hp hg => (by have hpg := Bool.and_eq_true_iff.2 ⟨hp, hg⟩; have hg0 := hg; (try simp at hg); exact op_neq evG evG)) ?_)
  refine JL_1 rfl (op_or (Ev.rfl' rfl) rfl (fun h => by first | exact SubL.rfl' | exact SubL.iteT (by first | (rw [h]; rfl) | (simp_all; done)) SubL.rfl')) ?_
  refine JL_1 rfl (op_move rfl) ?_
  (first | refine JL_i0 rfl rfl rfl (fun hg => (by have hg0 := hg; (try simp at hg); first | exact op_fieldPtr (k := 2) evG rfl rfl rfl rfl | exact op_fieldRefN (k := 2) evG rfl rfl rfl rfl nrmT)) ?_ | refine JL_i rfl rfl rfl (fun hp hg => (by have hpg := Bool.and_eq_true_iff.2 ⟨hp, hg⟩; have hg0 := hg; (try simp at hg); first | exact op_fieldPtr (k := 2) evG rfl rfl rfl rfl | exact op_fieldRefN (k := 2) evG rfl rfl rfl rfl nrmT)) ?_)
  (first | refine JL_i0 rfl rfl rfl (fun hg => (by have hg0 := hg; (try simp at hg); exact op_indexArr (k := 4) (sz := 1) evG evG rfl rfl idxT (by first | decide | omega))) ?_ | refine JL_i rfl rfl rfl (fun hp hg => (by have hpg := Bool.and_eq_true_iff.2 ⟨hp, hg⟩; have hg0 := hg; (try simp at hg); exact op_indexArr (k := 4) (sz := 1) evG evG rfl rfl idxT (by first | decide | omega))) ?_)
  (first | refine JL_i0 rfl rfl rfl (fun hg => (by have hg0 := hg; (try simp at hg); first | exact op_loadRef evG rfl rfl rfl | exact op_loadPtr evG memT (by rfl) (by rfl) (by rfl))) ?_ | refine JL_i rfl rfl rfl (fun hp hg => (by have hpg := Bool.and_eq_true_iff.2 ⟨hp, hg⟩; have hg0 := hg; (try simp at hg); first | exact op_loadRef evG rfl rfl rfl | exact op_loadPtr evG memT (by rfl) (by rfl) (by rfl))) ?_)
  (first | refine JL_i0 rfl rfl rfl (fun hg => (by have hg0 := hg; (try simp at hg); first | exact op_fieldPtr (k := 2) evG rfl rfl rfl rfl | exact op_fieldRefN (k := 2) evG rfl rfl rfl rfl nrmT)) ?_ | refine JL_i rfl rfl rfl (fun hp hg => (by have hpg := Bool.and_eq_true_iff.2 ⟨hp, hg⟩; have hg0 := hg; (try simp at hg); first | exact op_fieldPtr (k := 2) evG rfl rfl rfl rfl | exact op_fieldRefN (k := 2) evG rfl rfl rfl rfl nrmT)) ?_)
  (first | refine JL_i0 rfl rfl rfl (fun hg => (by have hg0 := hg; (try simp at hg); exact op_indexArr (k := 4) (sz := 1) evG evG rfl rfl idxT (by first | decide | omega))) ?_ | refine JL_i rfl rfl rfl (fun hp hg => (by have hpg := Bool.and_eq_true_iff.2 ⟨hp, hg⟩; have hg0 := hg; (try simp at hg); exact op_indexArr (k := 4) (sz := 1) evG evG rfl rfl idxT (by first | decide | omega))) ?_)
  (first | refine JL_i0 rfl rfl rfl (fun hg => (by have hg0 := hg; (try simp at hg); first | exact op_loadRef evG rfl rfl rfl | exact op_loadPtr evG memT (by rfl) (by rfl) (by rfl))) ?_ | refine JL_i rfl rfl rfl (fun hp hg => (by have hpg := Bool.and_eq_true_iff.2 ⟨hp, hg⟩; have hg0 := hg; (try simp at hg); first | exact op_loadRef evG rfl rfl rfl | exact op_loadPtr evG memT (by rfl) (by rfl) (by rfl))) ?_)
  (first | refine JL_i0 rfl rfl rfl (fun hg => (by have hg0 := hg; (try simp at hg); exact op_neq evG evG)) ?_ | refine JL_i rfl rfl rfl (fun hp hg => (by have hpg := Bool.and_eq_true_iff.2 ⟨hp, hg⟩; have hg0 := hg; (try simp at hg); exact op_neq evG evG)) ?_)
  refine JL_1 rfl (op_or (Ev.rfl' rfl) rfl (fun h => by first | exact SubL.rfl' | exact SubL.iteT (by first | (rw [h]; rfl) | (simp_all; done)) SubL.rfl')) ?_
  refine JL_1 rfl (op_move rfl) ?_
  (first | refine JL_i0 rfl rfl rfl (fun hg => (by have hg0 := hg; (try simp at hg); first | exact op_fieldPtr (k := 2) evG rfl rfl rfl rfl | exact op_fieldRefN (k := 2) evG rfl rfl rfl rfl nrmT)) ?_ | refine JL_i rfl rfl rfl (fun hp hg => (by have hpg := Bool.and_eq_true_iff.2 ⟨hp, hg⟩; have hg0 := hg; (try simp at hg); first | exact op_fieldPtr (k := 2) evG rfl rfl rfl rfl | exact op_fieldRefN (k := 2) evG rfl rfl rfl rfl nrmT)) ?_)
  (first | refine JL_i0 rfl rfl rfl (fun hg => (by have hg0 := hg; (try simp at hg); exact op_indexArr (k := 5) (sz := 1) evG evG rfl rfl idxT (by first | decide | omega))) ?_ | refine JL_i rfl rfl rfl (fun hp hg => (by have hpg := Bool.and_eq_true_iff.2 ⟨hp, hg⟩; have hg0 := hg; (try simp at hg); exact op_indexArr (k := 5) (sz := 1) evG evG rfl rfl idxT (by first | decide | omega))) ?_)
  (first | refine JL_i0 rfl rfl rfl (fun hg => (by have hg0 := hg; (try simp at hg); first | exact op_loadRef evG rfl rfl rfl | exact op_loadPtr evG memT (by rfl) (by rfl) (by rfl))) ?_ | refine JL_i rfl rfl rfl (fun hp hg => (by have hpg := Bool.and_eq_true_iff.2 ⟨hp, hg⟩; have hg0 := hg; (try simp at hg); first | exact op_loadRef evG rfl rfl rfl | exact op_loadPtr evG memT (by rfl) (by rfl) (by rfl))) ?_)
  (first | refine JL_i0 rfl rfl rfl (fun hg => (by have hg0 := hg; (try simp at hg); first | exact op_fieldPtr (k := 2) evG rfl rfl rfl rfl | exact op_fieldRefN (k := 2) evG rfl rfl rfl rfl nrmT)) ?_ | refine JL_i rfl rfl rfl (fun hp hg => (by have hpg := Bool.and_eq_true_iff.2 ⟨hp, hg⟩; have hg0 := hg; (try simp at hg); first | exact op_fieldPtr (k := 2) evG rfl rfl rfl rfl | exact op_fieldRefN (k := 2) evG rfl rfl rfl rfl nrmT)) ?_)
  (first | refine JL_i0 rfl rfl rfl (fun hg => (by have hg0 := hg; (try simp at hg); exact op_indexArr (k := 5) (sz := 1) evG evG rfl rfl idxT (by first | decide | omega))) ?_ | refine JL_i rfl rfl rfl (fun hp hg => (by have hpg := Bool.and_eq_true_iff.2 ⟨hp, hg⟩; have hg0 := hg; (try simp at hg); exact op_indexArr (k := 5) (sz := 1) evG evG rfl rfl idxT (by first | decide | omega))) ?_)
  (first | refine JL_i0 rfl rfl rfl (fun hg => (by have hg0 := hg; (try simp at hg); first | exact op_loadRef evG rfl rfl rfl | exact op_loadPtr evG memT (by rfl) (by rfl) (by rfl))) ?_ | refine JL_i rfl rfl rfl (fun hp hg => (by have hpg := Bool.and_eq_true_iff.2 ⟨hp, hg⟩; have hg0 := hg; (try simp at hg); first | exact op_loadRef evG rfl rfl rfl | exact op_loadPtr evG memT (by rfl) (by rfl) (by rfl))) ?_)
  (first | refine JL_i0 rfl rfl rfl (fun hg => (by have hg0 := hg; (try simp at hg); exact op_neq evG evG)) ?_ | refine JL_i rfl rfl rfl (fun hp hg => (by have hpg := Bool.and_eq_true_iff.2 ⟨hp, hg⟩; have hg0 := hg; (try simp at hg); exact op_neq evG evG)) ?_)
  refine JL_1 rfl (op_or (Ev.rfl' rfl) rfl (fun h => by first | exact SubL.rfl' | exact SubL.iteT (by first | (rw [h]; rfl) | (simp_all; done)) SubL.rfl')) ?_
  refine JL_1 rfl (op_move rfl) ?_
  (first | refine JL_i0 rfl rfl rfl (fun hg => (by have hg0 := hg; (try simp at hg); first | exact op_fieldPtr (k := 2) evG rfl rfl rfl rfl | exact op_fieldRefN (k := 2) evG rfl rfl rfl rfl nrmT)) ?_ | refine JL_i rfl rfl rfl (fun hp hg => (by have hpg := Bool.and_eq_true_iff.2 ⟨hp, hg⟩; have hg0 := hg; (try simp at hg); first | exact op_fieldPtr (k := 2) evG rfl rfl rfl rfl | exact op_fieldRefN (k := 2) evG rfl rfl rfl rfl nrmT)) ?_)
  (first | refine JL_i0 rfl rfl rfl (fun hg => (by have hg0 := hg; (try simp at hg); exact op_indexArr (k := 6) (sz := 1) evG evG rfl rfl idxT (by first | decide | omega))) ?_ | refine JL_i rfl rfl rfl (fun hp hg => (by have hpg := Bool.and_eq_true_iff.2 ⟨hp, hg⟩; have hg0 := hg; (try simp at hg); exact op_indexArr (k := 6) (sz := 1) evG evG rfl rfl idxT (by first | decide | omega))) ?_)
  (first | refine JL_i0 rfl rfl rfl (fun hg => (by have hg0 := hg; (try simp at hg); first | exact op_loadRef evG rfl rfl rfl | exact op_loadPtr evG memT (by rfl) (by rfl) (by rfl))) ?_ | refine JL_i rfl rfl rfl (fun hp hg => (by have hpg := Bool.and_eq_true_iff.2 ⟨hp, hg⟩; have hg0 := hg; (try simp at hg); first | exact op_loadRef evG rfl rfl rfl | exact op_loadPtr evG memT (by rfl) (by rfl) (by rfl))) ?_)
  (first | refine JL_i0 rfl rfl rfl (fun hg => (by have hg0 := hg; (try simp at hg); first | exact op_fieldPtr (k := 2) evG rfl rfl rfl rfl | exact op_fieldRefN (k := 2) evG rfl rfl rfl rfl nrmT)) ?_ | refine JL_i rfl rfl rfl (fun hp hg => (by have hpg := Bool.and_eq_true_iff.2 ⟨hp, hg⟩; have hg0 := hg; (try simp at hg); first | exact op_fieldPtr (k := 2) evG rfl rfl rfl rfl | exact op_fieldRefN (k := 2) evG rfl rfl rfl rfl nrmT)) ?_)
  (first | refine JL_i0 rfl rfl rfl (fun hg => (by have hg0 := hg; (try simp at hg); exact op_indexArr (k := 6) (sz := 1) evG evG rfl rfl idxT (by first | decide | omega))) ?_ | refine JL_i rfl rfl rfl (fun hp hg => (by have hpg := Bool.and_eq_true_iff.2 ⟨hp, hg⟩; have hg0 := hg; (try simp at hg); exact op_indexArr (k := 6) (sz := 1) evG evG rfl rfl idxT (by first | decide | omega))) ?_)
  (first | refine JL_i0 rfl rfl rfl (fun hg => (by have hg0 := hg; (try simp at hg); first | exact op_loadRef evG rfl rfl rfl | exact op_loadPtr evG memT (by rfl) (by rfl) (by rfl))) ?_ | refine JL_i rfl rfl rfl (fun hp hg => (by have hpg := Bool.and_eq_true_iff.2 ⟨hp, hg⟩; have hg0 := hg; (try simp at hg); first | exact op_loadRef evG rfl rfl rfl | exact op_loadPtr evG memT (by rfl) (by rfl) (by rfl))) ?_)
  (first | refine JL_i0 rfl rfl rfl (fun hg => (by have hg0 := hg; (try simp at hg); exact op_neq evG evG)) ?_ | refine JL_i rfl rfl rfl (fun hp hg => (by have hpg := Bool.and_eq_true_iff.2 ⟨hp, hg⟩; have hg0 := hg; (try simp at hg); exact op_neq evG evG)) ?_)
  refine JL_1 rfl (op_or (Ev.rfl' rfl) rfl (fun h => by first | exact SubL.rfl' | exact SubL.iteT (by first | (rw [h]; rfl) | (simp_all; done)) SubL.rfl')) ?_
  refine JL_nil ?_
  refine JQ_then ?_
  refine JC_cond (Ev.rfl' rfl) (fun h20 => ?_) (fun h20 => ?_)
  · exfalso; simp [writeV, writeK] at h20
  clear h20
  obtain ⟨b, hb⟩ : ∃ b : Nat, n.tdiv 24 % 64 = b := ⟨(n.tdiv 24 % 64).toNat, by omega⟩
  obtain ⟨j, hj⟩ : ∃ j : Nat, 1 + n.tdiv 8 % 3 = j := ⟨(1 + n.tdiv 8 % 3).toNat, by omega⟩
  have hj7 : j < 7 := by omega
  obtain ⟨dx, hdx⟩ := data_cell (writeV q s) hj7
  have hcl : (tPg.cells (writeV q s)).length = 9 := rfl
  have hof : 0 + 2 + j * 1 = 2 + j := by omega
  refine JC_skip (JQ_then (JC_seq ?_))
  refine JC_dr rfl (by kernel_rfl) ?_
  refine JD_stretch 15 (by kernel_rfl) ?_
  refine JW_1 (op_move rfl) ?_
  refine JW_1 (op_quo (Ev.rfl' rfl) (Ev.rfl' rfl) (by omega) wrapT) ?_
  refine JW_1 (by first | ((refine op_call Tryd.call6 (PickH_ok _ _ ?_ ?_) ⟨evS, ⟨evS, trivial⟩⟩); all_goals (first | omega))) ?_
  refine JW_1 (op_add (Ev.rfl' rfl) (Ev.rfl' rfl) wrapT) ?_
  refine JW_1 (by first | exact op_fieldPtr (k := 2) (Ev.rfl' rfl) rfl rfl rfl rfl | exact op_fieldRefN (k := 2) (Ev.rfl' rfl) rfl rfl rfl rfl nrmT) ?_
  refine JW_1 (op_indexArr (k := j) (sz := 1) (Ev.rfl' rfl) (Ev.rfl' rfl) rfl rfl idxT (by first | decide | omega)) ?_
  refine JW_1 (op_loadPtr (Ev.rfl' rfl) (As := tPg.cells (writeV q s)) memT rfl rfl (by rw [hof]; exact hdx)) ?_
  refine JW_1 (op_move rfl) ?_
  refine JW_1 (op_quo (Ev.rfl' rfl) (Ev.rfl' rfl) (by omega) wrapT) ?_
  refine JW_1 (by first | ((refine op_call Tryd.call6 (PickH_ok _ _ ?_ ?_) ⟨evS, ⟨evS, trivial⟩⟩); all_goals (first | omega))) ?_
  refine JW_1 (op_conv (Ev.rfl' rfl) rfl rfl convT) ?_
  refine JW_1 (by first | exact op_shlU (k := b) ev64 (Ev.rfl' rfl) (by first | omega | exact UV_nonneg _) idxT | exact op_shl (Ev.rfl' rfl) (Ev.rfl' rfl) (by first | omega | exact UV_nonneg _) rfl) ?_
  refine JW_1 (by first | exact op_bits ev64 ev64 (by simp) (xor_u64 _ _) | exact op_bits (Ev.rfl' rfl) (Ev.rfl' rfl) (by simp) rfl) ?_
  refine JW_1 (by first | exact op_fieldPtr (k := 2) (Ev.rfl' rfl) rfl rfl rfl rfl | exact op_fieldRefN (k := 2) (Ev.rfl' rfl) rfl rfl rfl rfl nrmT) ?_
  refine JW_1 (op_indexArr (k := j) (sz := 1) (Ev.rfl' rfl) (Ev.rfl' rfl) rfl rfl idxT (by first | decide | omega)) ?_
  refine ⟨rfl, ?_⟩
  refine JD_s0 (by kernel_rfl) rfl (op_storeA (n := 1) (Rs := tPg.cells ((writeV q s).setd j (dx ^^^ 1#64 <<< b))) (Ev.rfl' rfl) (Ev.rfl' rfl) cellsT replT (by rw [hof]; exact (setd_cells (writeV q s) _ hj7).symm) (by rfl) (by rfl) (by first | (simp; done) | (simp; omega) | omega)) ?_
  refine JD_end ?_
  refine JQ_then (JC_seq ?_)
  generalize (writeV q s).setd j (dx ^^^ 1#64 <<< b) = q2
  refine JC_region ?_
  refine JL_1 rfl (by first | exact op_loadRefsN (n := 9) (Ev.rfl' rfl) rfl rfl rfl (by rfl) nrmT | exact op_loadPtrsN (n := 9) (Ev.rfl' rfl) memT (by rfl) (by rfl) (by rfl) (by rfl) nrmT) ?_
  refine JL_1 rfl (by first | ((refine op_callK Tryd.call8 (ReadRoot_ok q2) ⟨evS, trivial⟩ memT))) ?_
  refine JL_1 rfl (op_move rfl) ?_
  refine JL_1 rfl (op_extract (Ev.rfl' rfl) rfl) ?_
  refine JL_1 rfl (op_extract (Ev.rfl' rfl) rfl) ?_
  refine JL_s0 (op_storeN (Ev.rfl' rfl) (Ev.rfl' rfl) cellsT replT nrmT (by rfl) (by rfl) (by rfl)) ?_
  refine JL_1 rfl (op_assign rfl) ?_
  refine JL_nil ?_
  refine JQ_then (JC_seq ?_)
  refine JC_region ?_
  refine JL_1 rfl (by first | exact op_loadRefsN (n := 9) (Ev.rfl' rfl) rfl rfl rfl (by rfl) nrmT | exact op_loadPtrsN (n := 9) (Ev.rfl' rfl) memT (by rfl) (by rfl) (by rfl) (by rfl) nrmT) ?_
  refine JL_1 rfl (op_call Tryd.call9 (ReadRootR_ok q2) ⟨evS, trivial⟩) ?_
  refine JL_1 rfl (op_move rfl) ?_
  refine JL_1 rfl (op_extract (Ev.rfl' rfl) rfl) ?_
  refine JL_1 rfl (op_extract (Ev.rfl' rfl) rfl) ?_
  refine JL_s0 (op_storeN (Ev.rfl' rfl) (Ev.rfl' rfl) cellsT replT nrmT (by rfl) (by rfl) (by rfl)) ?_
  refine JL_1 rfl (op_assign rfl) ?_
  refine JL_nil ?_
  refine JQ_then (JC_seq ?_)
  refine JC_dr rfl (by kernel_rfl) ?_
  refine JD_stretch 10 (by kernel_rfl) ?_
  refine JW_1 (by first | exact op_loadRefsN (n := 11) (Ev.rfl' rfl) rfl rfl rfl (by rfl) nrmT | exact op_loadPtrsN (n := 11) (Ev.rfl' rfl) memT (by rfl) (by rfl) (by rfl) (by rfl) nrmT) ?_
  refine JW_1 (op_call Tryd.call12 (root_ok2 _) ⟨evS, trivial⟩) ?_
  refine JW_1 (by first | exact op_loadRefsN (n := 11) (Ev.rfl' rfl) rfl rfl rfl (by rfl) nrmT | exact op_loadPtrsN (n := 11) (Ev.rfl' rfl) memT (by rfl) (by rfl) (by rfl) (by rfl) nrmT) ?_
  refine JW_1 (op_cmpA (vs := Rt.cells (readR q2).1) (ws := Rt.cells (readR q2).1) (Ev.rfl' rfl) (Ev.rfl' rfl) (eqRtR_guard _ _ _ (readR q2).1 (readR q2).1) (eqRtR_eql (readR q2).1 (readR q2).1)) ?_
  refine JW_1 (op_move rfl) ?_
  (first | refine JW_i0 rfl rfl (fun hg => (by have hg0 := hg; (try simp at hg); first | exact op_moveE (Ev.sub rfl (SubL.iteT (by first | assumption | (simp; done) | (simp; omega) | (simp_all; done)) SubL.rfl')) | exact op_moveE (Ev.rfl' rfl))) ?_ | refine JW_i rfl rfl (fun hp hg => (by have hpg := Bool.and_eq_true_iff.2 ⟨hp, hg⟩; have hg0 := hg; (try simp at hg); first | exact op_moveE (Ev.sub rfl (SubL.iteT (by first | assumption | (simp; done) | (simp; omega) | (simp_all; done)) SubL.rfl')) | exact op_moveE (Ev.rfl' rfl))) ?_)
  (first | refine JW_i0 rfl rfl (fun hg => (by have hg0 := hg; (try simp at hg); first | exact op_moveE (Ev.sub rfl (SubL.iteT (by first | assumption | (simp; done) | (simp; omega) | (simp_all; done)) SubL.rfl')) | exact op_moveE (Ev.rfl' rfl))) ?_ | refine JW_i rfl rfl (fun hp hg => (by have hpg := Bool.and_eq_true_iff.2 ⟨hp, hg⟩; have hg0 := hg; (try simp at hg); first | exact op_moveE (Ev.sub rfl (SubL.iteT (by first | assumption | (simp; done) | (simp; omega) | (simp_all; done)) SubL.rfl')) | exact op_moveE (Ev.rfl' rfl))) ?_)
  (first | refine JW_i0 rfl rfl (fun hg => (by have hg0 := hg; (try simp at hg); exact op_eql evG evG)) ?_ | refine JW_i rfl rfl (fun hp hg => (by have hpg := Bool.and_eq_true_iff.2 ⟨hp, hg⟩; have hg0 := hg; (try simp at hg); exact op_eql evG evG)) ?_)
  refine JW_1 (op_and (Ev.rfl' rfl) rfl (fun h => by first | exact SubL.rfl' | exact SubL.iteT (by first | (rw [h]; rfl) | (simp_all; done)) SubL.rfl')) ?_
  refine JW_1 (op_assign rfl) ?_
  refine ⟨rfl, ?_⟩
  refine JD_end ?_
  refine JQ_then (JC_ret ?_)
  refine JQ_ret1 Tryd.results3 rfl () (SubL.eq ?_) (List.nil_sublist _)
  simp
end Go.Proofs.YtmcaomdjlepapaaDoor

/- The walk of HashSlots. Own work. -/
namespace Go.Proofs.YtmcaomdjlepapaaDoor
open Go.RowKit
set_option linter.unusedVariables false
set_option linter.unusedSimpArgs false
set_option maxRecDepth 100000
-- bodegalaw23.HashSlots: function 4
set_option maxHeartbeats 8000000 in
theorem HashSlots_ok (p : Pg) (s : S8) (n : Int) (hn : I64ok n) : FnK Tryd.prog 4 gNone [IsPg p, IsS8 s, Is (.int .i64 n)] (Is (.bool true)) := by
  have ht0 := tdiv_in hn 6 (by omega)
  have ht1 := tdiv_in hn 54 (by omega)
  have ht2 := tdiv_in hn 378 (by omega)
  refine Fn.enterN Tryd.func4 Tryd.ntmps4 rfl rfl ?_
  intro c hX
  refine JC_seq ?_
  refine JC_region ?_
  (refine JL_n rfl (op_box (Ev.rfl' rfl) cellsT) ?_; intro i3)
  (refine JL_n rfl (op_box (Ev.rfl' rfl) cellsT) ?_; intro i4)
  refine JL_1 rfl (op_assign rfl) ?_
  refine JL_nil ?_
  refine JQ_then (JC_seq (JC_seq ?_))
  refine JC_region ?_
  refine JL_1 rfl (op_move rfl) ?_
  refine JL_1 rfl (by first | ((refine op_call Tryd.call6 (PickH_ok _ _ ?_ ?_) ⟨evS, ⟨evS, trivial⟩⟩); all_goals (first | omega))) ?_
  refine JL_1 rfl (op_gtr (Ev.rfl' rfl) (Ev.rfl' rfl)) ?_
  refine JL_nil ?_
  refine JQ_then ?_
  refine JC_cutT (fun z : Pg × S8 => True) (fun z => [(2, Is (.int .i64 n)), (3, Is (.pointer (some ⟨i3, 0, none⟩))), (4, Is (.pointer (some ⟨i4, 0, none⟩)))]) (fun z => [blk i3 25 (tPg.cells z.1), blk i4 50 (tS8.cells z.2), gNone]) ?_ ?_
  rotate_left
  focus
    refine JC_cond (Ev.rfl' rfl) (fun h1 => ?_) (fun h1 => ?_)
    · refine JC_seq ?_
      refine JC_region ?_
      refine JL_1 rfl (op_move rfl) ?_
      refine JL_1 rfl (op_quo (Ev.rfl' rfl) (Ev.rfl' rfl) (by omega) wrapT) ?_
      refine JL_1 rfl (by first | ((refine op_call Tryd.call6 (PickH_ok _ _ ?_ ?_) ⟨evS, ⟨evS, trivial⟩⟩); all_goals (first | omega))) ?_
      refine JL_1 rfl (op_conv (Ev.rfl' rfl) rfl rfl convT) ?_
      refine JL_1 rfl (by first | exact op_binU ev64 ev64 (mul_u64 _ _ _) | exact op_mul (Ev.rfl' rfl) (Ev.rfl' rfl) wrapT) ?_
      refine JL_1 rfl (by first | exact op_binU ev64 ev64 (add_u64 _ _ _) | exact op_add (Ev.rfl' rfl) (Ev.rfl' rfl) wrapT) ?_
      refine JL_1 rfl (by first | exact op_fieldPtr (k := 2) (Ev.rfl' rfl) rfl rfl rfl rfl | exact op_fieldRefN (k := 2) (Ev.rfl' rfl) rfl rfl rfl rfl nrmT) ?_
      refine JL_1 rfl (op_indexArr (k := 0) (sz := 1) (Ev.rfl' rfl) (Ev.rfl' rfl) rfl rfl idxT (by first | decide | omega)) ?_
      refine JL_s0 (op_storeN (Ev.rfl' rfl) (Ev.rfl' rfl) cellsT replT nrmT (by rfl) (by rfl) (by rfl)) ?_
      refine JL_nil ?_
      refine JQ_then (JC_seq ?_)
      refine JC_region ?_
      refine JL_1 rfl (op_assign rfl) ?_
      refine JL_nil ?_
      refine JQ_then (JC_block ?_)
      refine JC_loopP (fun z : Nat × Pg × S8 => z.1 ≤ 8) (fun z => [(2, Is (.int .i64 n)), (3, Is (.pointer (some ⟨i3, 0, none⟩))), (4, Is (.pointer (some ⟨i4, 0, none⟩))), (7, Is (.int .i64 (z.1 : Nat)))]) (fun z => [blk i3 25 (tPg.cells z.2.1), blk i4 50 (tS8.cells z.2.2), gNone]) (fun z => 8 - z.1) (0, ⟨p.l, p.h, 3#64 + BitVec.ofInt 64 (n.tdiv 6 % 9) * 256#64, p.d1, p.d2, p.d3, p.d4, p.d5, p.d6⟩, s) (Nat.zero_le _) esubT lessT ?_
      rintro ⟨k, q, z⟩ hk
      dsimp only at hk ⊢
      refine JC_seq (JC_seq ?_)
      refine JC_region ?_
      refine JL_1 rfl (op_move rfl) ?_
      refine JL_1 rfl (op_lss (Ev.rfl' rfl) (Ev.rfl' rfl)) ?_
      refine JL_nil ?_
      refine JQ_then ?_
      refine JC_cond (Ev.rfl' rfl) (fun h4 => ?_) (fun h4 => ?_)
      · have hk4 : k = 0 ∨ k = 1 ∨ k = 2 ∨ k = 3 ∨ k = 4 ∨ k = 5 ∨ k = 6 ∨ k = 7 := by have := of_decide_eq_true h4; omega
        clear h4
        rcases hk4 with rfl | rfl | rfl | rfl | rfl | rfl | rfl | rfl
        all_goals
          refine JC_skip (JQ_then (JC_seq (JC_block ?_)))
          refine JC_region ?_
          refine JL_1 rfl (op_move rfl) ?_
          refine JL_1 rfl (op_move rfl) ?_
          refine JL_1 rfl (op_indexArr (k := _) (sz := 2) (Ev.rfl' rfl) (Ev.rfl' rfl) rfl rfl idxT (by first | decide | omega)) ?_
          refine JL_1 rfl (by first | exact op_loadRefsN (n := 2) (Ev.rfl' rfl) rfl rfl rfl (by rfl) nrmT | exact op_loadPtrsN (n := 2) (Ev.rfl' rfl) memT (by rfl) (by rfl) (by rfl) (by rfl) nrmT) ?_
          refine JL_1 rfl (op_call Tryd.call7 (aim_ok _) ⟨evS, trivial⟩) ?_
          refine JL_ex 37 rfl (fun qk => ?_)
          refine JL_1 rfl (op_indexArr (k := _) (sz := 2) (Ev.rfl' rfl) (Ev.rfl' rfl) rfl rfl idxT (by first | decide | omega)) ?_
          refine JL_s0 (op_storeN (Ev.rfl' rfl) (Ev.rfl' rfl) cellsT replT nrmT (by rfl) (by rfl) (by rfl)) ?_
          refine JL_nil ?_
          refine JQ_block (JQ_then ?_)
          refine JC_region ?_
          refine JL_1 rfl (op_move rfl) ?_
          refine JL_1 rfl (op_add (Ev.rfl' rfl) (Ev.rfl' rfl) wrapT) ?_
          refine JL_1 rfl (op_assign rfl) ?_
          refine JL_nil ?_
          first | exact JQ_roundP (1, q, (S8.mk qk z.s1 z.s2 z.s3 z.s4 z.s5 z.s6 z.s7)) (by dsimp only; omega) (by dsimp only; omega) esubT lessT | exact JQ_roundP (2, q, (S8.mk z.s0 qk z.s2 z.s3 z.s4 z.s5 z.s6 z.s7)) (by dsimp only; omega) (by dsimp only; omega) esubT lessT | exact JQ_roundP (3, q, (S8.mk z.s0 z.s1 qk z.s3 z.s4 z.s5 z.s6 z.s7)) (by dsimp only; omega) (by dsimp only; omega) esubT lessT | exact JQ_roundP (4, q, (S8.mk z.s0 z.s1 z.s2 qk z.s4 z.s5 z.s6 z.s7)) (by dsimp only; omega) (by dsimp only; omega) esubT lessT | exact JQ_roundP (5, q, (S8.mk z.s0 z.s1 z.s2 z.s3 qk z.s5 z.s6 z.s7)) (by dsimp only; omega) (by dsimp only; omega) esubT lessT | exact JQ_roundP (6, q, (S8.mk z.s0 z.s1 z.s2 z.s3 z.s4 qk z.s6 z.s7)) (by dsimp only; omega) (by dsimp only; omega) esubT lessT | exact JQ_roundP (7, q, (S8.mk z.s0 z.s1 z.s2 z.s3 z.s4 z.s5 qk z.s7)) (by dsimp only; omega) (by dsimp only; omega) esubT lessT | exact JQ_roundP (8, q, (S8.mk z.s0 z.s1 z.s2 z.s3 z.s4 z.s5 z.s6 qk)) (by dsimp only; omega) (by dsimp only; omega) esubT lessT
      refine JC_exit (JQ_then_exit (JQ_then_exit (JQ_hit ?_)))
      exact JQ_meetP (q, z) trivial esubT lessT
    refine JC_skip ?_
    exact JQ_meetP (p, s) trivial esubT lessT
  rintro ⟨q, s⟩ _
  dsimp only
  refine JC_seq ?_
  refine JC_region ?_
  refine JL_1 rfl (by first | exact op_loadRefsN (n := 9) (Ev.rfl' rfl) rfl rfl rfl (by rfl) nrmT | exact op_loadPtrsN (n := 9) (Ev.rfl' rfl) memT (by rfl) (by rfl) (by rfl) (by rfl) nrmT) ?_
  refine JL_1 rfl (op_call Tryd.call15 (ReadSlots_ok _) ⟨evS, trivial⟩) ?_
  refine JL_1 rfl (op_move rfl) ?_
  refine JL_1 rfl (op_extract (Ev.rfl' rfl) rfl) ?_
  refine JL_1 rfl (op_extract (Ev.rfl' rfl) rfl) ?_
  (refine JL_n rfl (op_allocN rfl nrmT rfl) ?_; intro i8)
  refine JL_s0 (op_storeN (Ev.rfl' rfl) (Ev.rfl' rfl) cellsT replT nrmT (by rfl) (by rfl) (by rfl)) ?_
  refine JL_1 rfl (op_assign rfl) ?_
  refine JL_nil ?_
  refine JQ_then (JC_seq ?_)
  refine JC_region ?_
  refine JL_1 rfl (by first | exact op_loadRefsN (n := 9) (Ev.rfl' rfl) rfl rfl rfl (by rfl) nrmT | exact op_loadPtrsN (n := 9) (Ev.rfl' rfl) memT (by rfl) (by rfl) (by rfl) (by rfl) nrmT) ?_
  refine JL_1 rfl (op_call Tryd.call16 (ReadSlotsR_ok _) ⟨evS, trivial⟩) ?_
  refine JL_1 rfl (op_move rfl) ?_
  refine JL_1 rfl (op_extract (Ev.rfl' rfl) rfl) ?_
  refine JL_1 rfl (op_extract (Ev.rfl' rfl) rfl) ?_
  (refine JL_n rfl (op_allocN rfl nrmT rfl) ?_; intro i10)
  refine JL_s0 (op_storeN (Ev.rfl' rfl) (Ev.rfl' rfl) cellsT replT nrmT (by rfl) (by rfl) (by rfl)) ?_
  refine JL_1 rfl (op_assign rfl) ?_
  refine JL_nil ?_
  refine JQ_then (JC_seq ?_)
  refine JC_region ?_
  refine JL_1 rfl (by first | exact op_loadRefsN (n := 9) (Ev.rfl' rfl) rfl rfl rfl (by rfl) nrmT | exact op_loadPtrsN (n := 9) (Ev.rfl' rfl) memT (by rfl) (by rfl) (by rfl) (by rfl) nrmT) ?_
  refine JL_1 rfl (by first | exact op_loadRefsN (n := 16) (Ev.rfl' rfl) rfl rfl rfl (by rfl) nrmT | exact op_loadPtrsN (n := 16) (Ev.rfl' rfl) memT (by rfl) (by rfl) (by rfl) (by rfl) nrmT) ?_
  refine JL_1 rfl (by first | ((refine op_callK Tryd.call17 (WriteSlots_ok _ _) ⟨evS, ⟨evS, trivial⟩⟩ memT))) ?_
  refine JL_1 rfl (op_move rfl) ?_
  refine JL_1 rfl (op_extract (Ev.rfl' rfl) rfl) ?_
  refine JL_1 rfl (op_extract (Ev.rfl' rfl) rfl) ?_
  (refine JL_n rfl (op_allocN rfl nrmT rfl) ?_; intro i12)
  refine JL_s0 (op_storeN (Ev.rfl' rfl) (Ev.rfl' rfl) cellsT replT nrmT (by rfl) (by rfl) (by rfl)) ?_
  refine JL_1 rfl (op_assign rfl) ?_
  refine JL_nil ?_
  refine JQ_then (JC_seq ?_)
  refine JC_dr rfl (by kernel_rfl) ?_
  refine JD_stretch 10 (by kernel_rfl) ?_
  refine JW_1 (by first | exact op_loadRefsN (n := 9) (Ev.rfl' rfl) rfl rfl rfl (by rfl) nrmT | exact op_loadPtrsN (n := 9) (Ev.rfl' rfl) memT (by rfl) (by rfl) (by rfl) (by rfl) nrmT) ?_
  refine JW_1 (by first | exact op_loadRefsN (n := 16) (Ev.rfl' rfl) rfl rfl rfl (by rfl) nrmT | exact op_loadPtrsN (n := 16) (Ev.rfl' rfl) memT (by rfl) (by rfl) (by rfl) (by rfl) nrmT) ?_
  refine JW_1 (op_call Tryd.call19 (slots_ok _) ⟨evS, trivial⟩) ?_
  refine JW_1 (op_call Tryd.call18 (WriteSlotsR_ok _ _) ⟨evS, ⟨evS, trivial⟩⟩) ?_
  refine JW_1 (op_move rfl) ?_
  refine JW_1 (op_extract (Ev.rfl' rfl) rfl) ?_
  refine JW_1 (op_extract (Ev.rfl' rfl) rfl) ?_
  refine JW_n (op_allocN rfl nrmT rfl) ?_
  refine JW_write rfl rfl rfl (by kernel_rfl) (op_storeWN evS cellsT rfl rfl rfl nrmT) ?_
  refine JW_1 (op_assign rfl) ?_
  refine ⟨rfl, ?_⟩
  intro i14
  refine JD_end ?_
  refine JQ_then (JC_seq (JC_seq ?_))
  refine JC_dr rfl (by kernel_rfl) ?_
  refine JD_stretch 24 (by kernel_rfl) ?_
  refine JW_1 (op_call Tryd.call13 (awakeH_ok) trivial) ?_
  refine JW_1 (op_not (Ev.rfl' rfl)) ?_
  refine JW_1 (op_move rfl) ?_
  (first | refine JW_i0 rfl rfl (fun hg => (by have hg0 := hg; (try simp at hg); first | exact op_loadRefsN (n := 16) evG rfl rfl rfl (by rfl) nrmT | exact op_loadPtrsN (n := 16) evG memT (by rfl) (by rfl) (by rfl) (by rfl) nrmT)) ?_ | refine JW_i rfl rfl (fun hp hg => (by have hpg := Bool.and_eq_true_iff.2 ⟨hp, hg⟩; have hg0 := hg; (try simp at hg); first | exact op_loadRefsN (n := 16) evG rfl rfl rfl (by rfl) nrmT | exact op_loadPtrsN (n := 16) evG memT (by rfl) (by rfl) (by rfl) (by rfl) nrmT)) ?_)
  (first | refine JW_i0 rfl rfl (fun hg => (by have hg0 := hg; (try simp at hg); exact op_call Tryd.call19 (slots_ok _) ⟨evS, trivial⟩)) ?_ | refine JW_i rfl rfl (fun hp hg => (by have hpg := Bool.and_eq_true_iff.2 ⟨hp, hg⟩; have hg0 := hg; (try simp at hg); exact op_call Tryd.call19 (slots_ok _) ⟨evS, trivial⟩)) ?_)
  (first | refine JW_i0 rfl rfl (fun hg => (by have hg0 := hg; (try simp at hg); first | exact op_loadRefsN (n := 16) evG rfl rfl rfl (by rfl) nrmT | exact op_loadPtrsN (n := 16) evG memT (by rfl) (by rfl) (by rfl) (by rfl) nrmT)) ?_ | refine JW_i rfl rfl (fun hp hg => (by have hpg := Bool.and_eq_true_iff.2 ⟨hp, hg⟩; have hg0 := hg; (try simp at hg); first | exact op_loadRefsN (n := 16) evG rfl rfl rfl (by rfl) nrmT | exact op_loadPtrsN (n := 16) evG memT (by rfl) (by rfl) (by rfl) (by rfl) nrmT)) ?_)
  (first | refine JW_i0 rfl rfl (fun hg => (by have hg0 := hg; (try simp at hg); exact op_cmpA (vs := S8.cells (readS q).1) (ws := S8.cells (readS q).1) evG evG (eqS8R_guard _ _ _ (readS q).1 (readS q).1) (eqS8R_neq (readS q).1 (readS q).1))) ?_ | refine JW_i rfl rfl (fun hp hg => (by have hpg := Bool.and_eq_true_iff.2 ⟨hp, hg⟩; have hg0 := hg; (try simp at hg); exact op_cmpA (vs := S8.cells (readS q).1) (ws := S8.cells (readS q).1) evG evG (eqS8R_guard _ _ _ (readS q).1 (readS q).1) (eqS8R_neq (readS q).1 (readS q).1))) ?_)
  refine JW_1 (op_or (Ev.rfl' rfl) rfl (fun h => by first | exact SubL.rfl' | exact SubL.iteT (by first | (rw [h]; rfl) | (simp_all; done)) SubL.rfl')) ?_
  refine JW_1 (op_move rfl) ?_
  (first | refine JW_i0 rfl rfl (fun hg => (by have hg0 := hg; (try simp at hg); first | exact op_moveE (Ev.sub rfl (SubL.iteT (by first | assumption | (simp; done) | (simp; omega) | (simp_all; done)) SubL.rfl')) | exact op_moveE (Ev.rfl' rfl))) ?_ | refine JW_i rfl rfl (fun hp hg => (by have hpg := Bool.and_eq_true_iff.2 ⟨hp, hg⟩; have hg0 := hg; (try simp at hg); first | exact op_moveE (Ev.sub rfl (SubL.iteT (by first | assumption | (simp; done) | (simp; omega) | (simp_all; done)) SubL.rfl')) | exact op_moveE (Ev.rfl' rfl))) ?_)
  (first | refine JW_i0 rfl rfl (fun hg => (by have hg0 := hg; (try simp at hg); first | exact op_moveE (Ev.sub rfl (SubL.iteT (by first | assumption | (simp; done) | (simp; omega) | (simp_all; done)) SubL.rfl')) | exact op_moveE (Ev.rfl' rfl))) ?_ | refine JW_i rfl rfl (fun hp hg => (by have hpg := Bool.and_eq_true_iff.2 ⟨hp, hg⟩; have hg0 := hg; (try simp at hg); first | exact op_moveE (Ev.sub rfl (SubL.iteT (by first | assumption | (simp; done) | (simp; omega) | (simp_all; done)) SubL.rfl')) | exact op_moveE (Ev.rfl' rfl))) ?_)
  (first | refine JW_i0 rfl rfl (fun hg => (by have hg0 := hg; (try simp at hg); exact op_neq evG evG)) ?_ | refine JW_i rfl rfl (fun hp hg => (by have hpg := Bool.and_eq_true_iff.2 ⟨hp, hg⟩; have hg0 := hg; (try simp at hg); exact op_neq evG evG)) ?_)
  refine JW_1 (op_or (Ev.rfl' rfl) rfl (fun h => by first | exact SubL.rfl' | exact SubL.iteT (by first | (rw [h]; rfl) | (simp_all; done)) SubL.rfl')) ?_
  refine JW_1 (op_move rfl) ?_
  (first | refine JW_i0 rfl rfl (fun hg => (by have hg0 := hg; (try simp at hg); first | exact op_loadRefsN (n := 9) evG rfl rfl rfl (by rfl) nrmT | exact op_loadPtrsN (n := 9) evG memT (by rfl) (by rfl) (by rfl) (by rfl) nrmT)) ?_ | refine JW_i rfl rfl (fun hp hg => (by have hpg := Bool.and_eq_true_iff.2 ⟨hp, hg⟩; have hg0 := hg; (try simp at hg); first | exact op_loadRefsN (n := 9) evG rfl rfl rfl (by rfl) nrmT | exact op_loadPtrsN (n := 9) evG memT (by rfl) (by rfl) (by rfl) (by rfl) nrmT)) ?_)
  (first | refine JW_i0 rfl rfl (fun hg => (by have hg0 := hg; (try simp at hg); first | exact op_loadRefsN (n := 9) evG rfl rfl rfl (by rfl) nrmT | exact op_loadPtrsN (n := 9) evG memT (by rfl) (by rfl) (by rfl) (by rfl) nrmT)) ?_ | refine JW_i rfl rfl (fun hp hg => (by have hpg := Bool.and_eq_true_iff.2 ⟨hp, hg⟩; have hg0 := hg; (try simp at hg); first | exact op_loadRefsN (n := 9) evG rfl rfl rfl (by rfl) nrmT | exact op_loadPtrsN (n := 9) evG memT (by rfl) (by rfl) (by rfl) (by rfl) nrmT)) ?_)
  (first | refine JW_i0 rfl rfl (fun hg => (by have hg0 := hg; (try simp at hg); exact op_call Tryd.call14 (same_refl _) ⟨evS, ⟨evS, trivial⟩⟩)) ?_ | refine JW_i rfl rfl (fun hp hg => (by have hpg := Bool.and_eq_true_iff.2 ⟨hp, hg⟩; have hg0 := hg; (try simp at hg); exact op_call Tryd.call14 (same_refl _) ⟨evS, ⟨evS, trivial⟩⟩)) ?_)
  (first | refine JW_i0 rfl rfl (fun hg => (by have hg0 := hg; (try simp at hg); exact op_not evG)) ?_ | refine JW_i rfl rfl (fun hp hg => (by have hpg := Bool.and_eq_true_iff.2 ⟨hp, hg⟩; have hg0 := hg; (try simp at hg); exact op_not evG)) ?_)
  refine JW_1 (op_or (Ev.rfl' rfl) rfl (fun h => by first | exact SubL.rfl' | exact SubL.iteT (by first | (rw [h]; rfl) | (simp_all; done)) SubL.rfl')) ?_
  refine JW_1 (op_move rfl) ?_
  (first | refine JW_i0 rfl rfl (fun hg => (by have hg0 := hg; (try simp at hg); first | exact op_moveE (Ev.sub rfl (SubL.iteT (by first | assumption | (simp; done) | (simp; omega) | (simp_all; done)) SubL.rfl')) | exact op_moveE (Ev.rfl' rfl))) ?_ | refine JW_i rfl rfl (fun hp hg => (by have hpg := Bool.and_eq_true_iff.2 ⟨hp, hg⟩; have hg0 := hg; (try simp at hg); first | exact op_moveE (Ev.sub rfl (SubL.iteT (by first | assumption | (simp; done) | (simp; omega) | (simp_all; done)) SubL.rfl')) | exact op_moveE (Ev.rfl' rfl))) ?_)
  (first | refine JW_i0 rfl rfl (fun hg => (by have hg0 := hg; (try simp at hg); first | exact op_moveE (Ev.sub rfl (SubL.iteT (by first | assumption | (simp; done) | (simp; omega) | (simp_all; done)) SubL.rfl')) | exact op_moveE (Ev.rfl' rfl))) ?_ | refine JW_i rfl rfl (fun hp hg => (by have hpg := Bool.and_eq_true_iff.2 ⟨hp, hg⟩; have hg0 := hg; (try simp at hg); first | exact op_moveE (Ev.sub rfl (SubL.iteT (by first | assumption | (simp; done) | (simp; omega) | (simp_all; done)) SubL.rfl')) | exact op_moveE (Ev.rfl' rfl))) ?_)
  (first | refine JW_i0 rfl rfl (fun hg => (by have hg0 := hg; (try simp at hg); exact op_neq evG evG)) ?_ | refine JW_i rfl rfl (fun hp hg => (by have hpg := Bool.and_eq_true_iff.2 ⟨hp, hg⟩; have hg0 := hg; (try simp at hg); exact op_neq evG evG)) ?_)
  refine JW_1 (op_or (Ev.rfl' rfl) rfl (fun h => by first | exact SubL.rfl' | exact SubL.iteT (by first | (rw [h]; rfl) | (simp_all; done)) SubL.rfl')) ?_
  refine ⟨rfl, ?_⟩
  refine JD_end ?_
  refine JQ_then ?_
  refine JC_cond (Ev.rfl' rfl) (fun h11 => ?_) (fun h11 => ?_)
  · exfalso; simp at h11
  clear h11
  refine JC_skip (JQ_then (JC_seq (JC_seq ?_)))
  refine JC_region ?_
  refine JL_1 rfl (op_move rfl) ?_
  refine JL_1 rfl (op_neq (Ev.rfl' rfl) (Ev.rfl' rfl)) ?_
  refine JL_nil ?_
  refine JQ_then ?_
  refine JC_cond (Ev.rfl' rfl) (fun h13 => ?_) (fun h13 => ?_)
  · refine JC_seq ?_
    refine JC_region ?_
    refine JL_1 rfl (op_assign rfl) ?_
    refine JL_nil ?_
    refine JQ_then (JC_ret (JQ_then_ret ?_))
    refine JQ_ret1 Tryd.results4 rfl () (SubL.eq ?_) (List.nil_sublist _)
    rfl
  obtain ⟨hk3, hf, hw⟩ := writeS_ok (p := q) (s := s) (by simpa using h13)
  clear h13
  refine JC_blkEq (b := i12) replT (show tPg.cells (writeS q s).1 = tPg.cells (fillK q s 8) by rw [hw]) ?_
  refine JC_skip (JQ_then (JC_seq ?_))
  refine JC_region ?_
  refine JL_1 rfl (by first | exact op_loadRefsN (n := 9) (Ev.rfl' rfl) rfl rfl rfl (by rfl) nrmT | exact op_loadPtrsN (n := 9) (Ev.rfl' rfl) memT (by rfl) (by rfl) (by rfl) (by rfl) nrmT) ?_
  refine JL_1 rfl (op_call Tryd.call15 (ReadSlots_ok (fillK q s 8)) ⟨evS, trivial⟩) ?_
  refine JL_1 rfl (op_move rfl) ?_
  refine JL_1 rfl (op_extract (Ev.rfl' rfl) rfl) ?_
  refine JL_1 rfl (op_extract (Ev.rfl' rfl) rfl) ?_
  (refine JL_n rfl (op_allocN rfl nrmT rfl) ?_; intro i16)
  refine JL_s0 (op_storeN (Ev.rfl' rfl) (Ev.rfl' rfl) cellsT replT nrmT (by rfl) (by rfl) (by rfl)) ?_
  refine JL_1 rfl (op_assign rfl) ?_
  refine JL_nil ?_
  refine JQ_then (JC_seq (JC_seq ?_))
  rw [back_slots hk3 hf]
  refine JC_region ?_
  refine JL_1 rfl (op_move rfl) ?_
  refine JL_1 rfl (op_neq (Ev.rfl' rfl) (Ev.rfl' rfl)) ?_
  refine JL_1 rfl (op_move rfl) ?_
  (first | refine JL_i0 rfl rfl rfl (fun hg => (by have hg0 := hg; (try simp at hg); first | exact op_loadRefsN (n := 16) evG rfl rfl rfl (by rfl) nrmT | exact op_loadPtrsN (n := 16) evG memT (by rfl) (by rfl) (by rfl) (by rfl) nrmT)) ?_ | refine JL_i rfl rfl rfl (fun hp hg => (by have hpg := Bool.and_eq_true_iff.2 ⟨hp, hg⟩; have hg0 := hg; (try simp at hg); first | exact op_loadRefsN (n := 16) evG rfl rfl rfl (by rfl) nrmT | exact op_loadPtrsN (n := 16) evG memT (by rfl) (by rfl) (by rfl) (by rfl) nrmT)) ?_)
  (first | refine JL_i0 rfl rfl rfl (fun hg => (by have hg0 := hg; (try simp at hg); first | exact op_loadRefsN (n := 16) evG rfl rfl rfl (by rfl) nrmT | exact op_loadPtrsN (n := 16) evG memT (by rfl) (by rfl) (by rfl) (by rfl) nrmT)) ?_ | refine JL_i rfl rfl rfl (fun hp hg => (by have hpg := Bool.and_eq_true_iff.2 ⟨hp, hg⟩; have hg0 := hg; (try simp at hg); first | exact op_loadRefsN (n := 16) evG rfl rfl rfl (by rfl) nrmT | exact op_loadPtrsN (n := 16) evG memT (by rfl) (by rfl) (by rfl) (by rfl) nrmT)) ?_)
  (first | refine JL_i0 rfl rfl rfl (fun hg => (by have hg0 := hg; (try simp at hg); exact op_cmpA (vs := S8.cells s) (ws := S8.cells s) evG evG (eqS8_guard _ _ _ s s) (eqS8_neq s s))) ?_ | refine JL_i rfl rfl rfl (fun hp hg => (by have hpg := Bool.and_eq_true_iff.2 ⟨hp, hg⟩; have hg0 := hg; (try simp at hg); exact op_cmpA (vs := S8.cells s) (ws := S8.cells s) evG evG (eqS8_guard _ _ _ s s) (eqS8_neq s s))) ?_)
  refine JL_1 rfl (op_or (Ev.rfl' rfl) rfl (fun h => by first | exact SubL.rfl' | exact SubL.iteT (by first | (rw [h]; rfl) | (simp_all; done)) SubL.rfl')) ?_
  refine JL_nil ?_
  refine JQ_then ?_
  refine JC_cond (Ev.rfl' rfl) (fun h16 => ?_) (fun h16 => ?_)
  · exfalso; simp at h16
  clear h16
  obtain ⟨b, hb⟩ : ∃ b : Nat, n.tdiv 378 % 64 = b := ⟨(n.tdiv 378 % 64).toNat, by omega⟩
  obtain ⟨j, hj⟩ : ∃ j : Nat, n.tdiv 54 % 7 = j := ⟨(n.tdiv 54 % 7).toNat, by omega⟩
  have hj7 : j < 7 := by omega
  obtain ⟨dx, hdx⟩ := data_cell (fillK q s 8) hj7
  have hcl : (tPg.cells (fillK q s 8)).length = 9 := rfl
  have hof : 0 + 2 + j * 1 = 2 + j := by omega
  refine JC_skip (JQ_then (JC_seq ?_))
  refine JC_dr rfl (by kernel_rfl) ?_
  refine JD_stretch 14 (by kernel_rfl) ?_
  refine JW_1 (op_move rfl) ?_
  refine JW_1 (op_quo (Ev.rfl' rfl) (Ev.rfl' rfl) (by omega) wrapT) ?_
  refine JW_1 (by first | ((refine op_call Tryd.call6 (PickH_ok _ _ ?_ ?_) ⟨evS, ⟨evS, trivial⟩⟩); all_goals (first | omega))) ?_
  refine JW_1 (by first | exact op_fieldPtr (k := 2) (Ev.rfl' rfl) rfl rfl rfl rfl | exact op_fieldRefN (k := 2) (Ev.rfl' rfl) rfl rfl rfl rfl nrmT) ?_
  refine JW_1 (op_indexArr (k := j) (sz := 1) (Ev.rfl' rfl) (Ev.rfl' rfl) rfl rfl idxT (by first | decide | omega)) ?_
  refine JW_1 (op_loadPtr (Ev.rfl' rfl) (As := tPg.cells (fillK q s 8)) memT rfl rfl (by rw [hof]; exact hdx)) ?_
  refine JW_1 (op_move rfl) ?_
  refine JW_1 (op_quo (Ev.rfl' rfl) (Ev.rfl' rfl) (by omega) wrapT) ?_
  refine JW_1 (by first | ((refine op_call Tryd.call6 (PickH_ok _ _ ?_ ?_) ⟨evS, ⟨evS, trivial⟩⟩); all_goals (first | omega))) ?_
  refine JW_1 (op_conv (Ev.rfl' rfl) rfl rfl convT) ?_
  refine JW_1 (by first | exact op_shlU (k := b) ev64 (Ev.rfl' rfl) (by first | omega | exact UV_nonneg _) idxT | exact op_shl (Ev.rfl' rfl) (Ev.rfl' rfl) (by first | omega | exact UV_nonneg _) rfl) ?_
  refine JW_1 (by first | exact op_bits ev64 ev64 (by simp) (xor_u64 _ _) | exact op_bits (Ev.rfl' rfl) (Ev.rfl' rfl) (by simp) rfl) ?_
  refine JW_1 (by first | exact op_fieldPtr (k := 2) (Ev.rfl' rfl) rfl rfl rfl rfl | exact op_fieldRefN (k := 2) (Ev.rfl' rfl) rfl rfl rfl rfl nrmT) ?_
  refine JW_1 (op_indexArr (k := j) (sz := 1) (Ev.rfl' rfl) (Ev.rfl' rfl) rfl rfl idxT (by first | decide | omega)) ?_
  refine ⟨rfl, ?_⟩
  refine JD_s0 (by kernel_rfl) rfl (op_storeA (n := 1) (Rs := tPg.cells ((fillK q s 8).setd j (dx ^^^ 1#64 <<< b))) (Ev.rfl' rfl) (Ev.rfl' rfl) cellsT replT (by rw [hof]; exact (setd_cells (fillK q s 8) _ hj7).symm) (by rfl) (by rfl) (by first | (simp; done) | (simp; omega) | omega)) ?_
  refine JD_end ?_
  refine JQ_then (JC_seq ?_)
  generalize (fillK q s 8).setd j (dx ^^^ 1#64 <<< b) = q2
  refine JC_region ?_
  refine JL_1 rfl (by first | exact op_loadRefsN (n := 9) (Ev.rfl' rfl) rfl rfl rfl (by rfl) nrmT | exact op_loadPtrsN (n := 9) (Ev.rfl' rfl) memT (by rfl) (by rfl) (by rfl) (by rfl) nrmT) ?_
  refine JL_1 rfl (op_call Tryd.call15 (ReadSlots_ok q2) ⟨evS, trivial⟩) ?_
  refine JL_1 rfl (op_move rfl) ?_
  refine JL_1 rfl (op_extract (Ev.rfl' rfl) rfl) ?_
  refine JL_1 rfl (op_extract (Ev.rfl' rfl) rfl) ?_
  refine JL_s0 (op_storeN (Ev.rfl' rfl) (Ev.rfl' rfl) cellsT replT nrmT (by rfl) (by rfl) (by rfl)) ?_
  refine JL_1 rfl (op_assign rfl) ?_
  refine JL_nil ?_
  refine JQ_then (JC_seq ?_)
  refine JC_region ?_
  refine JL_1 rfl (by first | exact op_loadRefsN (n := 9) (Ev.rfl' rfl) rfl rfl rfl (by rfl) nrmT | exact op_loadPtrsN (n := 9) (Ev.rfl' rfl) memT (by rfl) (by rfl) (by rfl) (by rfl) nrmT) ?_
  refine JL_1 rfl (op_call Tryd.call16 (ReadSlotsR_ok q2) ⟨evS, trivial⟩) ?_
  refine JL_1 rfl (op_move rfl) ?_
  refine JL_1 rfl (op_extract (Ev.rfl' rfl) rfl) ?_
  refine JL_1 rfl (op_extract (Ev.rfl' rfl) rfl) ?_
  refine JL_s0 (op_storeN (Ev.rfl' rfl) (Ev.rfl' rfl) cellsT replT nrmT (by rfl) (by rfl) (by rfl)) ?_
  refine JL_1 rfl (op_assign rfl) ?_
  refine JL_nil ?_
  refine JQ_then (JC_seq ?_)
  refine JC_dr rfl (by kernel_rfl) ?_
  refine JD_stretch 10 (by kernel_rfl) ?_
  refine JW_1 (by first | exact op_loadRefsN (n := 16) (Ev.rfl' rfl) rfl rfl rfl (by rfl) nrmT | exact op_loadPtrsN (n := 16) (Ev.rfl' rfl) memT (by rfl) (by rfl) (by rfl) (by rfl) nrmT) ?_
  refine JW_1 (op_call Tryd.call19 (slots_ok _) ⟨evS, trivial⟩) ?_
  refine JW_1 (by first | exact op_loadRefsN (n := 16) (Ev.rfl' rfl) rfl rfl rfl (by rfl) nrmT | exact op_loadPtrsN (n := 16) (Ev.rfl' rfl) memT (by rfl) (by rfl) (by rfl) (by rfl) nrmT) ?_
  refine JW_1 (op_cmpA (vs := S8.cells (readS q2).1) (ws := S8.cells (readS q2).1) (Ev.rfl' rfl) (Ev.rfl' rfl) (eqS8R_guard _ _ _ (readS q2).1 (readS q2).1) (eqS8R_eql (readS q2).1 (readS q2).1)) ?_
  refine JW_1 (op_move rfl) ?_
  (first | refine JW_i0 rfl rfl (fun hg => (by have hg0 := hg; (try simp at hg); first | exact op_moveE (Ev.sub rfl (SubL.iteT (by first | assumption | (simp; done) | (simp; omega) | (simp_all; done)) SubL.rfl')) | exact op_moveE (Ev.rfl' rfl))) ?_ | refine JW_i rfl rfl (fun hp hg => (by have hpg := Bool.and_eq_true_iff.2 ⟨hp, hg⟩; have hg0 := hg; (try simp at hg); first | exact op_moveE (Ev.sub rfl (SubL.iteT (by first | assumption | (simp; done) | (simp; omega) | (simp_all; done)) SubL.rfl')) | exact op_moveE (Ev.rfl' rfl))) ?_)
  (first | refine JW_i0 rfl rfl (fun hg => (by have hg0 := hg; (try simp at hg); first | exact op_moveE (Ev.sub rfl (SubL.iteT (by first | assumption | (simp; done) | (simp; omega) | (simp_all; done)) SubL.rfl')) | exact op_moveE (Ev.rfl' rfl))) ?_ | refine JW_i rfl rfl (fun hp hg => (by have hpg := Bool.and_eq_true_iff.2 ⟨hp, hg⟩; have hg0 := hg; (try simp at hg); first | exact op_moveE (Ev.sub rfl (SubL.iteT (by first | assumption | (simp; done) | (simp; omega) | (simp_all; done)) SubL.rfl')) | exact op_moveE (Ev.rfl' rfl))) ?_)
  (first | refine JW_i0 rfl rfl (fun hg => (by have hg0 := hg; (try simp at hg); exact op_eql evG evG)) ?_ | refine JW_i rfl rfl (fun hp hg => (by have hpg := Bool.and_eq_true_iff.2 ⟨hp, hg⟩; have hg0 := hg; (try simp at hg); exact op_eql evG evG)) ?_)
  refine JW_1 (op_and (Ev.rfl' rfl) rfl (fun h => by first | exact SubL.rfl' | exact SubL.iteT (by first | (rw [h]; rfl) | (simp_all; done)) SubL.rfl')) ?_
  refine JW_1 (op_assign rfl) ?_
  refine ⟨rfl, ?_⟩
  refine JD_end ?_
  refine JQ_then (JC_ret ?_)
  refine JQ_ret1 Tryd.results4 rfl () (SubL.eq ?_) (List.nil_sublist _)
  simp
end Go.Proofs.YtmcaomdjlepapaaDoor

/- Readers of arrays. Own work. -/
namespace Go.Proofs.YtmcaomdjlepapaaDoor
open Go.RowKit Go.ChangeShapes Go.WideShapes Go.ChangeAt
set_option linter.unusedVariables false
set_option linter.unusedSimpArgs false
section
variable {H : Type} {enc : TypeId × Value → H} {P : Program} {w : World} {base : Nat} {sp : Nat → Bool} {held : Bool}
theorem flat_len {α : Type} (T : Ty α) (xs : List α) : (xs.flatMap T.cells).length = xs.length * T.size := by
  induction xs with
  | nil => simp
  | cons x xs ih => rw [List.flatMap_cons, List.length_append, ih, T.len, List.length_cons, Nat.add_mul]; omega
def tArr {α : Type} (n : Nat) (T : Ty α) : Ty {xs : List α // xs.length = n} := ⟨n * T.size, fun xs => xs.1.flatMap T.cells, fun xs => by rw [flat_len, xs.2]⟩
theorem alls_pieces {α : Type} {T : Ty α} {φ : Fz} (A : Nat → α) : ∀ (n : Nat) (cs : List Value), cs.length = n * T.size → (∀ i, i < n → Alls φ (T.cells (A i)) ((cs.drop (i * T.size)).take T.size)) → Alls φ (((List.range n).map A).flatMap T.cells) cs
  | 0, cs, hl, _ => by
    have : cs = [] := List.eq_nil_of_length_eq_zero (by omega)
    subst this; trivial
  | n + 1, cs, hl, h => by
    have e2 : (n + 1) * T.size = n * T.size + T.size := by rw [Nat.add_mul, Nat.one_mul]
    rw [e2] at hl
    have h1 := alls_pieces (T := T) A n (cs.take (n * T.size)) (by rw [List.length_take, hl]; omega) fun i hi => by
      have h2 := h i (by omega)
      have e : ((cs.take (n * T.size)).drop (i * T.size)).take T.size = (cs.drop (i * T.size)).take T.size := by
        rw [List.drop_take, List.take_take]
        congr 1
        have : (i + 1) * T.size ≤ n * T.size := Nat.mul_le_mul_right _ hi
        rw [Nat.add_mul] at this
        omega
      rw [e]; exact h2
    have h3 := h n (by omega)
    rw [List.take_of_length_le (by rw [List.length_drop, hl]; omega)] at h3
    rw [List.range_succ, List.map_append, List.flatMap_append]
    have h4 := h1.append h3
    rw [List.take_append_drop] at h4
    simpa using h4
theorem rds_array {α : Type} {T : Ty α} {R : α → Prop} {t e : TypeId} {n : Nat} (ht : P.underlying t = some (.array n e)) (hc : P.cellsOf e = T.size) (hct : P.cellsOf t = n * T.size) (hn : Nat.blt 0 n = true) (he : Rds enc P w base sp held e T R) :
    Rds enc P w base sp held t (tArr n T) (fun xs => ∀ a ∈ xs.1, R a) := by
  intro fuel cs x h
  obtain ⟨xs, m, _, _, hlen, hxs, hf⟩ := DataW.trod_array ht h
  rw [hct] at hlen
  rw [hc] at hf
  have key : ∀ i, i < n → ∃ y : α, Alls (phi w) (T.cells y) ((cs.drop (i * T.size)).take T.size) ∧ ones ((cs.drop (i * T.size)).take T.size) ∧ R y := fun i hi => by
    have h1 := hf i hi
    rw [List.getElem?_eq_getElem (by omega)] at h1
    exact he _ _ _ h1
  have hn' : 0 < n := Nat.le_of_ble_eq_true hn
  obtain ⟨y0, _, _⟩ := key 0 hn'
  have : Inhabited α := ⟨y0⟩
  obtain ⟨A, hA⟩ := Go.Deep.choose_lt key
  refine ⟨⟨(List.range n).map A, by simp⟩, alls_pieces A n cs hlen fun i hi => (hA i hi).1, ?_, fun a ha => ?_⟩
  · have hone : ∀ k, k ≤ n → ones (cs.take (k * T.size)) := fun k => by
      induction k with
      | zero => intro _ u hu; simp at hu
      | succ k ih =>
        intro hk u hu
        rw [Nat.add_mul, Nat.one_mul, List.take_add] at hu
        rcases List.mem_append.1 hu with hu | hu
        · exact ih (by omega) u hu
        · exact (hA k (by omega)).2.1 u hu
    have := hone n (Nat.le_refl _)
    rwa [List.take_of_length_le (by omega)] at this
  · obtain ⟨i, hi, rfl⟩ := List.mem_map.1 ha
    exact (hA i (List.mem_range.1 hi)).2.2
end
end Go.Proofs.YtmcaomdjlepapaaDoor

/- The reader of pages. Own work. -/
namespace Go.Proofs.YtmcaomdjlepapaaDoor
open Go.RowKit Go.ChangeShapes Go.WideShapes Go.ChangeAt
set_option linter.unusedVariables false
set_option linter.unusedSimpArgs false
set_option maxRecDepth 100000
section
variable {H : Type} {enc : TypeId × Value → H} {w : World} {base : Nat} {sp : Nat → Bool} {held : Bool}
def Pg.wf (p : Pg) : Prop := I64ok p.l
theorem c9_Pg : Tryd.prog.cellsOf 25 = 9 := by kernel_rfl
theorem c9_A7 : Tryd.prog.cellsOf 23 = 7 := by kernel_rfl
theorem c9_u64 : Tryd.prog.cellsOf 22 = 1 := by kernel_rfl
theorem c9_int : Tryd.prog.cellsOf 3 = 1 := by kernel_rfl
theorem rds_Pg : Rds enc Tryd.prog w base sp held 25 tPg Pg.wf := by
  intro fuel cs x h
  obtain ⟨xs, n, _, _, hlen, hxs, hf⟩ := DataW.trod_struct Tryd.underlying25 h
  rw [c9_Pg] at hlen
  match cs, hlen with
  | [c0, c1, c2, c3, c4, c5, c6, c7, c8], _ =>
    match xs, hxs with
    | [x0, x1, x2], _ =>
      have f0 : DataW.trod enc Tryd.prog w base sp held n 3 (([c0, c1, c2, c3, c4, c5, c6, c7, c8].drop 0).take (Tryd.prog.cellsOf 3)) = some x0 := hf 0 _ rfl
      have f1 : DataW.trod enc Tryd.prog w base sp held n 22 (([c0, c1, c2, c3, c4, c5, c6, c7, c8].drop 1).take (Tryd.prog.cellsOf 22)) = some x1 := hf 1 _ rfl
      have f2 : DataW.trod enc Tryd.prog w base sp held n 23 (([c0, c1, c2, c3, c4, c5, c6, c7, c8].drop 2).take (Tryd.prog.cellsOf 23)) = some x2 := hf 2 _ rfl
      rw [c9_int] at f0
      rw [c9_u64] at f1
      rw [c9_A7] at f2
      obtain ⟨l, g0, o0, w0⟩ := (rds_i64 Tryd.underlying3) _ _ _ f0
      obtain ⟨hd, g1, o1, _⟩ := (rds_u64 Tryd.underlying22) _ _ _ f1
      obtain ⟨⟨ds, hl⟩, g2, o2, _⟩ := (rds_array Tryd.underlying23 (T := tU64) c9_u64 c9_A7 rfl (rds_u64 Tryd.underlying22)) _ _ _ f2
      match ds, hl with
      | [d0, d1, d2, d3, d4, d5, d6], _ => exact ⟨⟨l, hd, d0, d1, d2, d3, d4, d5, d6⟩, (g0.append g1).append g2, ones_app (ones_app o0 o1) o2, w0⟩
end
end Go.Proofs.YtmcaomdjlepapaaDoor

/- The readers of pointers and roots. Own work. -/
namespace Go.Proofs.YtmcaomdjlepapaaDoor
open Go.RowKit Go.ChangeShapes Go.WideShapes Go.ChangeAt
set_option linter.unusedVariables false
set_option linter.unusedSimpArgs false
set_option maxRecDepth 100000
section
variable {H : Type} {enc : TypeId × Value → H} {w : World} {base : Nat} {sp : Nat → Bool} {held : Bool}
def Pt.wf (p : Pt) : Prop := I64ok p.line ∧ I64ok p.gen
def Rt.wf (r : Rt) : Prop := I64ok r.depth
theorem c2_Pt : Tryd.prog.cellsOf 27 = 2 := by kernel_rfl
theorem c11_Rt : Tryd.prog.cellsOf 30 = 11 := by kernel_rfl
theorem c8_A4 : Tryd.prog.cellsOf 28 = 4 * 2 := by kernel_rfl
theorem rds_Pt : Rds enc Tryd.prog w base sp held 27 tPt Pt.wf := by
  intro fuel cs x h
  obtain ⟨xs, n, _, _, hlen, hxs, hf⟩ := DataW.trod_struct Tryd.underlying27 h
  rw [c2_Pt] at hlen
  match cs, hlen with
  | [c0, c1], _ =>
    match xs, hxs with
    | [x0, x1], _ =>
      have f0 : DataW.trod enc Tryd.prog w base sp held n 3 (([c0, c1].drop 0).take (Tryd.prog.cellsOf 3)) = some x0 := hf 0 _ rfl
      have f1 : DataW.trod enc Tryd.prog w base sp held n 3 (([c0, c1].drop 1).take (Tryd.prog.cellsOf 3)) = some x1 := hf 1 _ rfl
      rw [c9_int] at f0 f1
      obtain ⟨a, g0, o0, w0⟩ := (rds_i64 Tryd.underlying3) _ _ _ f0
      obtain ⟨b, g1, o1, w1⟩ := (rds_i64 Tryd.underlying3) _ _ _ f1
      exact ⟨⟨a, b⟩, g0.append g1, ones_app o0 o1, w0, w1⟩
theorem rds_Rt : Rds enc Tryd.prog w base sp held 30 tRt Rt.wf := by
  intro fuel cs x h
  obtain ⟨xs, n, _, _, hlen, hxs, hf⟩ := DataW.trod_struct Tryd.underlying30 h
  rw [c11_Rt] at hlen
  match cs, hlen with
  | [c0, c1, c2, c3, c4, c5, c6, c7, c8, c9, c10], _ =>
    match xs, hxs with
    | [x0, x1, x2], _ =>
      have f0 : DataW.trod enc Tryd.prog w base sp held n 27 (([c0, c1, c2, c3, c4, c5, c6, c7, c8, c9, c10].drop 0).take (Tryd.prog.cellsOf 27)) = some x0 := hf 0 _ rfl
      have f1 : DataW.trod enc Tryd.prog w base sp held n 3 (([c0, c1, c2, c3, c4, c5, c6, c7, c8, c9, c10].drop 2).take (Tryd.prog.cellsOf 3)) = some x1 := hf 1 _ rfl
      have f2 : DataW.trod enc Tryd.prog w base sp held n 28 (([c0, c1, c2, c3, c4, c5, c6, c7, c8, c9, c10].drop 3).take (Tryd.prog.cellsOf 28)) = some x2 := hf 2 _ rfl
      rw [c2_Pt] at f0
      rw [c9_int] at f1
      rw [c8_A4] at f2
      obtain ⟨p, g0, o0, _⟩ := rds_Pt _ _ _ f0
      obtain ⟨d, g1, o1, w1⟩ := (rds_i64 Tryd.underlying3) _ _ _ f1
      obtain ⟨⟨ds, hl⟩, g2, o2, _⟩ := (rds_array Tryd.underlying28 (T := tPt) c2_Pt c8_A4 rfl rds_Pt) _ _ _ f2
      match ds, hl with
      | [d0, d1, d2, d3], _ => exact ⟨⟨p, d, d0, d1, d2, d3⟩, (g0.append g1).append g2, ones_app (ones_app o0 o1) o2, w1⟩
end
end Go.Proofs.YtmcaomdjlepapaaDoor

/- The reader of an array of eight pointers. Own work. -/
namespace Go.Proofs.YtmcaomdjlepapaaDoor
open Go.RowKit Go.ChangeShapes Go.WideShapes Go.ChangeAt
set_option linter.unusedVariables false
set_option linter.unusedSimpArgs false
set_option maxRecDepth 100000
section
variable {H : Type} {enc : TypeId × Value → H} {w : World} {base : Nat} {sp : Nat → Bool} {held : Bool} {P : Program}
def S8.wf (s : S8) : Prop := True
theorem c16_S8 : Tryd.prog.cellsOf 50 = 8 * 2 := by kernel_rfl
theorem rds_S8 : Rds enc Tryd.prog w base sp held 50 tS8 S8.wf := by
  intro fuel cs x h
  obtain ⟨⟨ds, hl⟩, g2, o2, _⟩ := (rds_array Tryd.underlying50 (T := tPt) c2_Pt c16_S8 rfl rds_Pt) _ _ _ h
  match ds, hl with
  | [d0, d1, d2, d3, d4, d5, d6, d7], _ => exact ⟨⟨d0, d1, d2, d3, d4, d5, d6, d7⟩, g2, o2, trivial⟩
theorem okWide_array {e t : TypeId} {n base : Nat} {r : Reach} {v : Value} (ht : P.underlying t = some (.array n e)) (h : Value.okWide P w r base t v) : ∃ cs, v = .agg cs ∧ cs.size = P.cellsOf t := by
  simp only [Value.okWide, ht] at h
  obtain ⟨cs, h1, h2, _⟩ := h
  exact ⟨cs, h1, h2⟩
theorem rds_argA {α : Type} {T : Ty α} {R : α → Prop} {t e : TypeId} {n : Nat} (ht : P.underlying t = some (.array n e)) {r : Reach} {b0 : Nat} {v : Value} {d : DataW H} {ps : List MemPlace} (he : Rds enc P w base sp held t T R)
    (hval : Value.okWide P w r b0 t v) (h : DataW.Trod enc P w base sp held t v d ps) : ∃ a, (IsAgg (T.cells a)).ok (phi w) v ∧ R a := by
  obtain ⟨cs, rfl, _⟩ := okWide_array ht hval
  obtain ⟨fuel, hf⟩ := h
  obtain ⟨a, h1, h2, h3⟩ := he _ _ _ hf
  exact ⟨a, ⟨_, rfl, h1, h2⟩, h3⟩
end
end Go.Proofs.YtmcaomdjlepapaaDoor

/- What the tied card's premise gives: the package variable's cells. Own work. -/
namespace Go.Proofs.YtmcaomdjlepapaaDoor
open Go.ChangeShapes Go.WideShapes Go.ChangeAt Go.WideMaps Go.WideElems Go.RowKit
set_option linter.unusedVariables false
set_option linter.unusedSimpArgs false
set_option maxRecDepth 100000
@[reducible] def laidN {H : Type} : List (String × DataW H) := [("bodega/hashindex.none", Rows.laid_bodega_hashindex_none)]
theorem gNamed : Tryd.prog.globalNamed "bodega/hashindex.none" = some 0 := by kernel_rfl
theorem tNamed : (Tryd.prog.globals[0]?).map (·.type) = some 27 := by kernel_rfl
theorem door_met (os : Os) (args : Array Value) : laidMetH Tryd.prog (laidN (H := Unit)) ((World.doorLaid Tryd.prog 14 os).forCall (fun _ _ => 0) ⟨#[], args, []⟩).memory :=
  laidMetH_of_parts3 (fuel := 8) (laidMet_of_run' 8 (by kernel_rfl) (by kernel_rfl)) (by kernel_rfl) (by kernel_rfl)
theorem of_laid {W : World} (h : laidMetH Tryd.prog (laidN (H := Unit)) W) : W.cell? ⟨0, 0, none⟩ = some (.int .i64 0) ∧ W.cell? ⟨0, 1, none⟩ = some (.int .i64 0) := by
  rw [MakeChecks.laidMetH_plain _ _ _ (by kernel_rfl)] at h
  obtain ⟨ps, ⟨g0, t0, cs0, f0, p0, q0, hg0, ht0, hv0, hd0, _⟩, _⟩ := h
  obtain rfl := Option.some.inj (gNamed.symm.trans hg0)
  obtain rfl := Option.some.inj (tNamed.symm.trans ht0)
  obtain ⟨xs, n, e1, e2, hlen, hxs, hf⟩ := DataW.trod_struct Tryd.underlying27 hd0
  rw [c2_Pt] at hlen
  obtain ⟨l⟩ := cs0
  dsimp only at hlen hf
  match l, hlen with
  | [c0, c1], _ =>
    match xs, hxs with
    | [x0, x1], _ =>
      have f0 : DataW.trod _ Tryd.prog W 0 _ false n 3 (([c0, c1].drop 0).take (Tryd.prog.cellsOf 3)) = some x0 := hf 0 _ rfl
      have f1 : DataW.trod _ Tryd.prog W 0 _ false n 3 (([c0, c1].drop 1).take (Tryd.prog.cellsOf 3)) = some x1 := hf 1 _ rfl
      rw [c9_int] at f0 f1
      obtain ⟨a, q1, q2, _⟩ := DataW.trod_int Tryd.underlying3 f0
      obtain ⟨b, q3, q4, _⟩ := DataW.trod_int Tryd.underlying3 f1
      simp only [Rows.laid_bodega_hashindex_none, Prod.mk.injEq, DataW.agg.injEq, List.map_cons, List.map_nil, List.cons.injEq] at e2
      have ha : a = 0 := by rw [q2] at e2; simpa using e2.1.1.symm
      have hb : b = 0 := by rw [q4] at e2; simpa using e2.1.2.1.symm
      subst ha hb
      have k0 := World.var?_cell hg0 hv0 0
      have k1 := World.var?_cell hg0 hv0 1
      simp at q1 q3
      subst q1 q3
      exact ⟨by simpa using k0, by simpa using k1⟩
/-- The fact that the contracts lean on. -/
theorem none_ok {W : World} (h : laidMetH Tryd.prog (laidN (H := Unit)) W) : (IsRef (tPt.cells Pt.nil)).ok (phi W) (.pointer (some ⟨0, 0, none⟩)) := by
  obtain ⟨h0, h1⟩ := of_laid h
  refine ⟨0, 0, rfl, fun j B hj => ?_⟩
  match j, hj with
  | 0, hj => injection hj with hj; subst hj; exact ⟨_, h0, rfl, rfl⟩
  | 1, hj => injection hj with hj; subst hj; exact ⟨_, h1, rfl, rfl⟩
end Go.Proofs.YtmcaomdjlepapaaDoor
