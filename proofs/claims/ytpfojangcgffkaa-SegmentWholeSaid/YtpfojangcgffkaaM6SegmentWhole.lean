/- Texts of this claim, laid together (part 6): walks of functions, what they compute, and plain laws of it. Own work. -/
import Derived.Lib.BitFns
import Derived.Test.YtpfojangcgffkaaM5SegmentWhole
/- The laws SegmentRound and SegmentPages: their walks. Own work. -/
namespace Go.Proofs.Ytpfojangcgffkaa
open Go.RowKit
set_option linter.unusedVariables false
set_option linter.unusedSimpArgs false
set_option maxRecDepth 100000
-- bodegalaw20.SegmentRound: function 4
set_option maxHeartbeats 2000000 in
theorem SegmentRound_ok (p : Pg) (kind : Int) (h : Hd) (n : Nd) : FnP Try.prog 4 [IsPg p, Is (.int .i64 kind), IsHd h, IsNd n] (Is (.bool true)) := by
  refine FnP.enter Try.func4 Try.ntmps4 rfl rfl ?_
  intro c hX
  refine JC_seq ?_
  refine JC_region ?_
  (refine JL_n rfl (op_box (Ev.rfl' rfl) cellsT) ?_; intro i4)
  (refine JL_n rfl (op_box (Ev.rfl' rfl) cellsT) ?_; intro i6)
  (refine JL_n rfl (op_box (Ev.rfl' rfl) cellsT) ?_; intro i7)
  refine JL_1 rfl (op_assign rfl) ?_
  refine JL_nil ?_
  refine JQ_then (JC_seq ?_)
  refine JC_region ?_
  refine JL_1 rfl (by first | exact op_loadRefsN (n := 9) (Ev.rfl' rfl) rfl rfl rfl (by rfl) nrmT | exact op_loadPtrsN (n := 9) (Ev.rfl' rfl) memT (by rfl) (by rfl) (by rfl) (by rfl) nrmT) ?_
  refine JL_1 rfl (op_move rfl) ?_
  refine JL_1 rfl (op_call Try.call13 (nearby_ok _ _) ⟨evS, ⟨evS, trivial⟩⟩) ?_
  (refine JL_ex 18 rfl ?_; intro q)
  refine JL_s0 (op_storeN (Ev.rfl' rfl) (Ev.rfl' rfl) cellsT replT nrmT (by rfl) (by rfl) (by rfl)) ?_
  refine JL_nil ?_
  refine JQ_then (JC_seq ?_)
  refine JC_region ?_
  refine JL_1 rfl (by first | exact op_loadRefsN (n := 9) (Ev.rfl' rfl) rfl rfl rfl (by rfl) nrmT | exact op_loadPtrsN (n := 9) (Ev.rfl' rfl) memT (by rfl) (by rfl) (by rfl) (by rfl) nrmT) ?_
  refine JL_1 rfl (by first | exact op_loadRefsN (n := 2) (Ev.rfl' rfl) rfl rfl rfl (by rfl) nrmT | exact op_loadPtrsN (n := 2) (Ev.rfl' rfl) memT (by rfl) (by rfl) (by rfl) (by rfl) nrmT) ?_
  refine JL_1 rfl (op_call Try.call22 (WriteHeader_ok q h) ⟨evS, ⟨evS, trivial⟩⟩) ?_
  refine JL_1 rfl (op_move rfl) ?_
  refine JL_1 rfl (op_extract (Ev.rfl' rfl) rfl) ?_
  refine JL_1 rfl (op_extract (Ev.rfl' rfl) rfl) ?_
  (refine JL_n rfl (op_allocN rfl nrmT rfl) ?_; intro i9)
  refine JL_s0 (op_storeN (Ev.rfl' rfl) (Ev.rfl' rfl) cellsT replT nrmT (by rfl) (by rfl) (by rfl)) ?_
  refine JL_1 rfl (op_assign rfl) ?_
  refine JL_nil ?_
  refine JQ_then (JC_seq (JC_seq ?_))
  refine JC_region ?_
  refine JL_1 rfl (op_move rfl) ?_
  refine JL_1 rfl (op_eql (Ev.rfl' rfl) (Ev.rfl' rfl)) ?_
  refine JL_nil ?_
  refine JQ_then ?_
  refine JC_cond (Ev.rfl' rfl) (fun h3 => ?_) (fun h3 => ?_)
  · obtain ⟨b1, b2, b3⟩ := back_header (p := q) (h := h) (by simpa using h3)
    refine JC_seq ?_
    refine JC_region ?_
    refine JL_1 rfl (by first | exact op_loadRefsN (n := 9) (Ev.rfl' rfl) rfl rfl rfl (by rfl) nrmT | exact op_loadPtrsN (n := 9) (Ev.rfl' rfl) memT (by rfl) (by rfl) (by rfl) (by rfl) nrmT) ?_
    refine JL_1 rfl (op_call Try.call15 (ReadHeader_ok (writeH q h).1) ⟨evS, trivial⟩) ?_
    refine JL_1 rfl (op_move rfl) ?_
    refine JL_1 rfl (op_extract (Ev.rfl' rfl) rfl) ?_
    refine JL_1 rfl (op_extract (Ev.rfl' rfl) rfl) ?_
    (refine JL_n rfl (op_allocN rfl nrmT rfl) ?_; intro i11)
    refine JL_s0 (op_storeN (Ev.rfl' rfl) (Ev.rfl' rfl) cellsT replT nrmT (by rfl) (by rfl) (by rfl)) ?_
    refine JL_1 rfl (op_assign rfl) ?_
    refine JL_nil ?_
    refine JQ_then (JC_seq ?_)
    refine JC_region ?_
    refine JL_1 rfl (op_move rfl) ?_
    refine JL_1 rfl (op_neq (Ev.rfl' rfl) (Ev.rfl' rfl)) ?_
    refine JL_1 rfl (op_move rfl) ?_
    (first | refine JL_i0 rfl rfl rfl (fun hg => (by have hg0 := hg; (try simp at hg); first | exact op_loadRefsN (n := 2) evG rfl rfl rfl (by rfl) nrmT | exact op_loadPtrsN (n := 2) evG memT (by rfl) (by rfl) (by rfl) (by rfl) nrmT)) ?_ | refine JL_i rfl rfl rfl (fun hp hg => (by have hpg := Bool.and_eq_true_iff.2 ⟨hp, hg⟩; have hg0 := hg; (try simp at hg); first | exact op_loadRefsN (n := 2) evG rfl rfl rfl (by rfl) nrmT | exact op_loadPtrsN (n := 2) evG memT (by rfl) (by rfl) (by rfl) (by rfl) nrmT)) ?_)
    (first | refine JL_i0 rfl rfl rfl (fun hg => (by have hg0 := hg; (try simp at hg); first | exact op_loadRefsN (n := 2) evG rfl rfl rfl (by rfl) nrmT | exact op_loadPtrsN (n := 2) evG memT (by rfl) (by rfl) (by rfl) (by rfl) nrmT)) ?_ | refine JL_i rfl rfl rfl (fun hp hg => (by have hpg := Bool.and_eq_true_iff.2 ⟨hp, hg⟩; have hg0 := hg; (try simp at hg); first | exact op_loadRefsN (n := 2) evG rfl rfl rfl (by rfl) nrmT | exact op_loadPtrsN (n := 2) evG memT (by rfl) (by rfl) (by rfl) (by rfl) nrmT)) ?_)
    (first | refine JL_i0 rfl rfl rfl (fun hg => (by have hg0 := hg; (try simp at hg); exact op_cmpA (vs := (readH (writeH q h).1).1.cells) (ws := h.cells) evG evG (eqHd_guard _ _ _ _ _) (eqHd_neq _ _))) ?_ | refine JL_i rfl rfl rfl (fun hp hg => (by have hpg := Bool.and_eq_true_iff.2 ⟨hp, hg⟩; have hg0 := hg; (try simp at hg); exact op_cmpA (vs := (readH (writeH q h).1).1.cells) (ws := h.cells) evG evG (eqHd_guard _ _ _ _ _) (eqHd_neq _ _))) ?_)
    refine JL_1 rfl (op_or (Ev.rfl' rfl) rfl (fun h => by first | exact SubL.rfl' | exact SubL.iteT (by first | (rw [h]; rfl) | (simp_all; done)) SubL.rfl')) ?_
    refine JL_1 rfl (op_move rfl) ?_
    (first | refine JL_i0 rfl rfl rfl (fun hg => (by have hg0 := hg; (try simp at hg); first | exact op_fieldPtr (k := 0) evG rfl rfl rfl rfl | exact op_fieldRefN (k := 0) evG rfl rfl rfl rfl nrmT)) ?_ | refine JL_i rfl rfl rfl (fun hp hg => (by have hpg := Bool.and_eq_true_iff.2 ⟨hp, hg⟩; have hg0 := hg; (try simp at hg); first | exact op_fieldPtr (k := 0) evG rfl rfl rfl rfl | exact op_fieldRefN (k := 0) evG rfl rfl rfl rfl nrmT)) ?_)
    (first | refine JL_i0 rfl rfl rfl (fun hg => (by have hg0 := hg; (try simp at hg); first | exact op_loadRef evG rfl rfl rfl | exact op_loadPtr evG memT (by rfl) (by rfl) (by rfl))) ?_ | refine JL_i rfl rfl rfl (fun hp hg => (by have hpg := Bool.and_eq_true_iff.2 ⟨hp, hg⟩; have hg0 := hg; (try simp at hg); first | exact op_loadRef evG rfl rfl rfl | exact op_loadPtr evG memT (by rfl) (by rfl) (by rfl))) ?_)
    (first | refine JL_i0 rfl rfl rfl (fun hg => (by have hg0 := hg; (try simp at hg); first | exact op_fieldPtr (k := 0) evG rfl rfl rfl rfl | exact op_fieldRefN (k := 0) evG rfl rfl rfl rfl nrmT)) ?_ | refine JL_i rfl rfl rfl (fun hp hg => (by have hpg := Bool.and_eq_true_iff.2 ⟨hp, hg⟩; have hg0 := hg; (try simp at hg); first | exact op_fieldPtr (k := 0) evG rfl rfl rfl rfl | exact op_fieldRefN (k := 0) evG rfl rfl rfl rfl nrmT)) ?_)
    (first | refine JL_i0 rfl rfl rfl (fun hg => (by have hg0 := hg; (try simp at hg); first | exact op_loadRef evG rfl rfl rfl | exact op_loadPtr evG memT (by rfl) (by rfl) (by rfl))) ?_ | refine JL_i rfl rfl rfl (fun hp hg => (by have hpg := Bool.and_eq_true_iff.2 ⟨hp, hg⟩; have hg0 := hg; (try simp at hg); first | exact op_loadRef evG rfl rfl rfl | exact op_loadPtr evG memT (by rfl) (by rfl) (by rfl))) ?_)
    (first | refine JL_i0 rfl rfl rfl (fun hg => (by have hg0 := hg; (try simp at hg); exact op_neq evG evG)) ?_ | refine JL_i rfl rfl rfl (fun hp hg => (by have hpg := Bool.and_eq_true_iff.2 ⟨hp, hg⟩; have hg0 := hg; (try simp at hg); exact op_neq evG evG)) ?_)
    refine JL_1 rfl (op_or (Ev.rfl' rfl) rfl (fun h => by first | exact SubL.rfl' | exact SubL.iteT (by first | (rw [h]; rfl) | (simp_all; done)) SubL.rfl')) ?_
    refine JL_1 rfl (op_move rfl) ?_
    (first | refine JL_i0 rfl rfl rfl (fun hg => (by have hg0 := hg; (try simp at hg); first | exact op_fieldPtr (k := 1) evG rfl rfl rfl rfl | exact op_fieldRefN (k := 1) evG rfl rfl rfl rfl nrmT)) ?_ | refine JL_i rfl rfl rfl (fun hp hg => (by have hpg := Bool.and_eq_true_iff.2 ⟨hp, hg⟩; have hg0 := hg; (try simp at hg); first | exact op_fieldPtr (k := 1) evG rfl rfl rfl rfl | exact op_fieldRefN (k := 1) evG rfl rfl rfl rfl nrmT)) ?_)
    (first | refine JL_i0 rfl rfl rfl (fun hg => (by have hg0 := hg; (try simp at hg); first | exact op_loadRef evG rfl rfl rfl | exact op_loadPtr evG memT (by rfl) (by rfl) (by rfl))) ?_ | refine JL_i rfl rfl rfl (fun hp hg => (by have hpg := Bool.and_eq_true_iff.2 ⟨hp, hg⟩; have hg0 := hg; (try simp at hg); first | exact op_loadRef evG rfl rfl rfl | exact op_loadPtr evG memT (by rfl) (by rfl) (by rfl))) ?_)
    (first | refine JL_i0 rfl rfl rfl (fun hg => (by have hg0 := hg; (try simp at hg); first | exact op_fieldPtr (k := 1) evG rfl rfl rfl rfl | exact op_fieldRefN (k := 1) evG rfl rfl rfl rfl nrmT)) ?_ | refine JL_i rfl rfl rfl (fun hp hg => (by have hpg := Bool.and_eq_true_iff.2 ⟨hp, hg⟩; have hg0 := hg; (try simp at hg); first | exact op_fieldPtr (k := 1) evG rfl rfl rfl rfl | exact op_fieldRefN (k := 1) evG rfl rfl rfl rfl nrmT)) ?_)
    (first | refine JL_i0 rfl rfl rfl (fun hg => (by have hg0 := hg; (try simp at hg); first | exact op_loadRef evG rfl rfl rfl | exact op_loadPtr evG memT (by rfl) (by rfl) (by rfl))) ?_ | refine JL_i rfl rfl rfl (fun hp hg => (by have hpg := Bool.and_eq_true_iff.2 ⟨hp, hg⟩; have hg0 := hg; (try simp at hg); first | exact op_loadRef evG rfl rfl rfl | exact op_loadPtr evG memT (by rfl) (by rfl) (by rfl))) ?_)
    (first | refine JL_i0 rfl rfl rfl (fun hg => (by have hg0 := hg; (try simp at hg); exact op_neq evG evG)) ?_ | refine JL_i rfl rfl rfl (fun hp hg => (by have hpg := Bool.and_eq_true_iff.2 ⟨hp, hg⟩; have hg0 := hg; (try simp at hg); exact op_neq evG evG)) ?_)
    refine JL_1 rfl (op_or (Ev.rfl' rfl) rfl (fun h => by first | exact SubL.rfl' | exact SubL.iteT (by first | (rw [h]; rfl) | (simp_all; done)) SubL.rfl')) ?_
    refine JL_nil ?_
    refine JQ_then ?_
    refine JC_cond (Ev.rfl' rfl) (fun h5 => ?_) (fun h5 => ?_)
    · exact absurd h5 (by rw [b1, b2, b3]; simp)
    refine JC_skip (JQ_then (JC_seq ?_))
    refine JC_region ?_
    refine JL_1 rfl (by first | exact op_loadRefsN (n := 9) (Ev.rfl' rfl) rfl rfl rfl (by rfl) nrmT | exact op_loadPtrsN (n := 9) (Ev.rfl' rfl) memT (by rfl) (by rfl) (by rfl) (by rfl) nrmT) ?_
    refine JL_1 rfl (by first | exact op_loadRefsN (n := 16) (Ev.rfl' rfl) rfl rfl rfl (by rfl) nrmT | exact op_loadPtrsN (n := 16) (Ev.rfl' rfl) memT (by rfl) (by rfl) (by rfl) (by rfl) nrmT) ?_
    refine JL_1 rfl (op_call Try.call24 (WriteNode_ok q n) ⟨evS, ⟨evS, trivial⟩⟩) ?_
    refine JL_1 rfl (op_move rfl) ?_
    refine JL_1 rfl (op_extract (Ev.rfl' rfl) rfl) ?_
    refine JL_1 rfl (op_extract (Ev.rfl' rfl) rfl) ?_
    (refine JL_n rfl (op_allocN rfl nrmT rfl) ?_; intro i13)
    refine JL_s0 (op_storeN (Ev.rfl' rfl) (Ev.rfl' rfl) cellsT replT nrmT (by rfl) (by rfl) (by rfl)) ?_
    refine JL_1 rfl (op_assign rfl) ?_
    refine JL_nil ?_
    refine JQ_then (JC_seq (JC_seq ?_))
    refine JC_region ?_
    refine JL_1 rfl (op_move rfl) ?_
    refine JL_1 rfl (op_eql (Ev.rfl' rfl) (Ev.rfl' rfl)) ?_
    refine JL_nil ?_
    refine JQ_then ?_
    refine JC_cond (Ev.rfl' rfl) (fun h8 => ?_) (fun h8 => ?_)
    · obtain ⟨b4, b5, b6⟩ := back_node (p := q) (n := n) (by simpa using h8)
      refine JC_seq ?_
      refine JC_region ?_
      refine JL_1 rfl (by first | exact op_loadRefsN (n := 9) (Ev.rfl' rfl) rfl rfl rfl (by rfl) nrmT | exact op_loadPtrsN (n := 9) (Ev.rfl' rfl) memT (by rfl) (by rfl) (by rfl) (by rfl) nrmT) ?_
      refine JL_1 rfl (op_call Try.call17 (ReadNode_ok (writeN q n).1) ⟨evS, trivial⟩) ?_
      refine JL_1 rfl (op_move rfl) ?_
      refine JL_1 rfl (op_extract (Ev.rfl' rfl) rfl) ?_
      refine JL_1 rfl (op_extract (Ev.rfl' rfl) rfl) ?_
      (refine JL_n rfl (op_allocN rfl nrmT rfl) ?_; intro i14)
      refine JL_s0 (op_storeN (Ev.rfl' rfl) (Ev.rfl' rfl) cellsT replT nrmT (by rfl) (by rfl) (by rfl)) ?_
      refine JL_1 rfl (op_assign rfl) ?_
      refine JL_nil ?_
      refine JQ_then (JC_seq ?_)
      refine JC_region ?_
      refine JL_1 rfl (op_move rfl) ?_
      refine JL_1 rfl (op_neq (Ev.rfl' rfl) (Ev.rfl' rfl)) ?_
      refine JL_1 rfl (op_move rfl) ?_
      (first | refine JL_i0 rfl rfl rfl (fun hg => (by have hg0 := hg; (try simp at hg); first | exact op_loadRefsN (n := 16) evG rfl rfl rfl (by rfl) nrmT | exact op_loadPtrsN (n := 16) evG memT (by rfl) (by rfl) (by rfl) (by rfl) nrmT)) ?_ | refine JL_i rfl rfl rfl (fun hp hg => (by have hpg := Bool.and_eq_true_iff.2 ⟨hp, hg⟩; have hg0 := hg; (try simp at hg); first | exact op_loadRefsN (n := 16) evG rfl rfl rfl (by rfl) nrmT | exact op_loadPtrsN (n := 16) evG memT (by rfl) (by rfl) (by rfl) (by rfl) nrmT)) ?_)
      (first | refine JL_i0 rfl rfl rfl (fun hg => (by have hg0 := hg; (try simp at hg); first | exact op_loadRefsN (n := 16) evG rfl rfl rfl (by rfl) nrmT | exact op_loadPtrsN (n := 16) evG memT (by rfl) (by rfl) (by rfl) (by rfl) nrmT)) ?_ | refine JL_i rfl rfl rfl (fun hp hg => (by have hpg := Bool.and_eq_true_iff.2 ⟨hp, hg⟩; have hg0 := hg; (try simp at hg); first | exact op_loadRefsN (n := 16) evG rfl rfl rfl (by rfl) nrmT | exact op_loadPtrsN (n := 16) evG memT (by rfl) (by rfl) (by rfl) (by rfl) nrmT)) ?_)
      (first | refine JL_i0 rfl rfl rfl (fun hg => (by have hg0 := hg; (try simp at hg); exact op_cmpA (vs := (readN (writeN q n).1).1.cells) (ws := n.cells) evG evG (eqNd_guard _ _ _ _ _) (eqNd_neq _ _))) ?_ | refine JL_i rfl rfl rfl (fun hp hg => (by have hpg := Bool.and_eq_true_iff.2 ⟨hp, hg⟩; have hg0 := hg; (try simp at hg); exact op_cmpA (vs := (readN (writeN q n).1).1.cells) (ws := n.cells) evG evG (eqNd_guard _ _ _ _ _) (eqNd_neq _ _))) ?_)
      refine JL_1 rfl (op_or (Ev.rfl' rfl) rfl (fun h => by first | exact SubL.rfl' | exact SubL.iteT (by first | (rw [h]; rfl) | (simp_all; done)) SubL.rfl')) ?_
      refine JL_1 rfl (op_move rfl) ?_
      (first | refine JL_i0 rfl rfl rfl (fun hg => (by have hg0 := hg; (try simp at hg); first | exact op_fieldPtr (k := 0) evG rfl rfl rfl rfl | exact op_fieldRefN (k := 0) evG rfl rfl rfl rfl nrmT)) ?_ | refine JL_i rfl rfl rfl (fun hp hg => (by have hpg := Bool.and_eq_true_iff.2 ⟨hp, hg⟩; have hg0 := hg; (try simp at hg); first | exact op_fieldPtr (k := 0) evG rfl rfl rfl rfl | exact op_fieldRefN (k := 0) evG rfl rfl rfl rfl nrmT)) ?_)
      (first | refine JL_i0 rfl rfl rfl (fun hg => (by have hg0 := hg; (try simp at hg); first | exact op_loadRef evG rfl rfl rfl | exact op_loadPtr evG memT (by rfl) (by rfl) (by rfl))) ?_ | refine JL_i rfl rfl rfl (fun hp hg => (by have hpg := Bool.and_eq_true_iff.2 ⟨hp, hg⟩; have hg0 := hg; (try simp at hg); first | exact op_loadRef evG rfl rfl rfl | exact op_loadPtr evG memT (by rfl) (by rfl) (by rfl))) ?_)
      (first | refine JL_i0 rfl rfl rfl (fun hg => (by have hg0 := hg; (try simp at hg); first | exact op_fieldPtr (k := 0) evG rfl rfl rfl rfl | exact op_fieldRefN (k := 0) evG rfl rfl rfl rfl nrmT)) ?_ | refine JL_i rfl rfl rfl (fun hp hg => (by have hpg := Bool.and_eq_true_iff.2 ⟨hp, hg⟩; have hg0 := hg; (try simp at hg); first | exact op_fieldPtr (k := 0) evG rfl rfl rfl rfl | exact op_fieldRefN (k := 0) evG rfl rfl rfl rfl nrmT)) ?_)
      (first | refine JL_i0 rfl rfl rfl (fun hg => (by have hg0 := hg; (try simp at hg); first | exact op_loadRef evG rfl rfl rfl | exact op_loadPtr evG memT (by rfl) (by rfl) (by rfl))) ?_ | refine JL_i rfl rfl rfl (fun hp hg => (by have hpg := Bool.and_eq_true_iff.2 ⟨hp, hg⟩; have hg0 := hg; (try simp at hg); first | exact op_loadRef evG rfl rfl rfl | exact op_loadPtr evG memT (by rfl) (by rfl) (by rfl))) ?_)
      (first | refine JL_i0 rfl rfl rfl (fun hg => (by have hg0 := hg; (try simp at hg); exact op_neq evG evG)) ?_ | refine JL_i rfl rfl rfl (fun hp hg => (by have hpg := Bool.and_eq_true_iff.2 ⟨hp, hg⟩; have hg0 := hg; (try simp at hg); exact op_neq evG evG)) ?_)
      refine JL_1 rfl (op_or (Ev.rfl' rfl) rfl (fun h => by first | exact SubL.rfl' | exact SubL.iteT (by first | (rw [h]; rfl) | (simp_all; done)) SubL.rfl')) ?_
      refine JL_1 rfl (op_move rfl) ?_
      (first | refine JL_i0 rfl rfl rfl (fun hg => (by have hg0 := hg; (try simp at hg); first | exact op_fieldPtr (k := 1) evG rfl rfl rfl rfl | exact op_fieldRefN (k := 1) evG rfl rfl rfl rfl nrmT)) ?_ | refine JL_i rfl rfl rfl (fun hp hg => (by have hpg := Bool.and_eq_true_iff.2 ⟨hp, hg⟩; have hg0 := hg; (try simp at hg); first | exact op_fieldPtr (k := 1) evG rfl rfl rfl rfl | exact op_fieldRefN (k := 1) evG rfl rfl rfl rfl nrmT)) ?_)
      (first | refine JL_i0 rfl rfl rfl (fun hg => (by have hg0 := hg; (try simp at hg); first | exact op_loadRef evG rfl rfl rfl | exact op_loadPtr evG memT (by rfl) (by rfl) (by rfl))) ?_ | refine JL_i rfl rfl rfl (fun hp hg => (by have hpg := Bool.and_eq_true_iff.2 ⟨hp, hg⟩; have hg0 := hg; (try simp at hg); first | exact op_loadRef evG rfl rfl rfl | exact op_loadPtr evG memT (by rfl) (by rfl) (by rfl))) ?_)
      (first | refine JL_i0 rfl rfl rfl (fun hg => (by have hg0 := hg; (try simp at hg); first | exact op_fieldPtr (k := 1) evG rfl rfl rfl rfl | exact op_fieldRefN (k := 1) evG rfl rfl rfl rfl nrmT)) ?_ | refine JL_i rfl rfl rfl (fun hp hg => (by have hpg := Bool.and_eq_true_iff.2 ⟨hp, hg⟩; have hg0 := hg; (try simp at hg); first | exact op_fieldPtr (k := 1) evG rfl rfl rfl rfl | exact op_fieldRefN (k := 1) evG rfl rfl rfl rfl nrmT)) ?_)
      (first | refine JL_i0 rfl rfl rfl (fun hg => (by have hg0 := hg; (try simp at hg); first | exact op_loadRef evG rfl rfl rfl | exact op_loadPtr evG memT (by rfl) (by rfl) (by rfl))) ?_ | refine JL_i rfl rfl rfl (fun hp hg => (by have hpg := Bool.and_eq_true_iff.2 ⟨hp, hg⟩; have hg0 := hg; (try simp at hg); first | exact op_loadRef evG rfl rfl rfl | exact op_loadPtr evG memT (by rfl) (by rfl) (by rfl))) ?_)
      (first | refine JL_i0 rfl rfl rfl (fun hg => (by have hg0 := hg; (try simp at hg); exact op_neq evG evG)) ?_ | refine JL_i rfl rfl rfl (fun hp hg => (by have hpg := Bool.and_eq_true_iff.2 ⟨hp, hg⟩; have hg0 := hg; (try simp at hg); exact op_neq evG evG)) ?_)
      refine JL_1 rfl (op_or (Ev.rfl' rfl) rfl (fun h => by first | exact SubL.rfl' | exact SubL.iteT (by first | (rw [h]; rfl) | (simp_all; done)) SubL.rfl')) ?_
      refine JL_nil ?_
      refine JQ_then ?_
      refine JC_cond (Ev.rfl' rfl) (fun h10 => ?_) (fun h10 => ?_)
      · exact absurd h10 (by rw [b4, b5, b6]; simp)
      refine JC_skip (JQ_then (JC_seq ?_))
      refine JC_region ?_
      refine JL_1 rfl (op_call Try.call19 (awake_ok) trivial) ?_
      refine JL_1 rfl (op_assign rfl) ?_
      refine JL_nil ?_
      refine JQ_then (JC_ret ?_)
      refine JQ_ret1 Try.results4 rfl () (SubL.eq ?_) (List.nil_sublist _)
      rfl
    refine JC_skip (JQ_then (JC_seq ?_))
    refine JC_region ?_
    refine JL_1 rfl (op_call Try.call19 (awake_ok) trivial) ?_
    refine JL_1 rfl (op_assign rfl) ?_
    refine JL_nil ?_
    refine JQ_then (JC_ret ?_)
    refine JQ_ret1 Try.results4 rfl () (SubL.eq ?_) (List.nil_sublist _)
    rfl
  refine JC_skip (JQ_then (JC_seq ?_))
  refine JC_region ?_
  refine JL_1 rfl (by first | exact op_loadRefsN (n := 9) (Ev.rfl' rfl) rfl rfl rfl (by rfl) nrmT | exact op_loadPtrsN (n := 9) (Ev.rfl' rfl) memT (by rfl) (by rfl) (by rfl) (by rfl) nrmT) ?_
  refine JL_1 rfl (by first | exact op_loadRefsN (n := 16) (Ev.rfl' rfl) rfl rfl rfl (by rfl) nrmT | exact op_loadPtrsN (n := 16) (Ev.rfl' rfl) memT (by rfl) (by rfl) (by rfl) (by rfl) nrmT) ?_
  refine JL_1 rfl (op_call Try.call24 (WriteNode_ok q n) ⟨evS, ⟨evS, trivial⟩⟩) ?_
  refine JL_1 rfl (op_move rfl) ?_
  refine JL_1 rfl (op_extract (Ev.rfl' rfl) rfl) ?_
  refine JL_1 rfl (op_extract (Ev.rfl' rfl) rfl) ?_
  (refine JL_n rfl (op_allocN rfl nrmT rfl) ?_; intro i13)
  refine JL_s0 (op_storeN (Ev.rfl' rfl) (Ev.rfl' rfl) cellsT replT nrmT (by rfl) (by rfl) (by rfl)) ?_
  refine JL_1 rfl (op_assign rfl) ?_
  refine JL_nil ?_
  refine JQ_then (JC_seq (JC_seq ?_))
  refine JC_region ?_
  refine JL_1 rfl (op_move rfl) ?_
  refine JL_1 rfl (op_eql (Ev.rfl' rfl) (Ev.rfl' rfl)) ?_
  refine JL_nil ?_
  refine JQ_then ?_
  refine JC_cond (Ev.rfl' rfl) (fun h8 => ?_) (fun h8 => ?_)
  · obtain ⟨b4, b5, b6⟩ := back_node (p := q) (n := n) (by simpa using h8)
    refine JC_seq ?_
    refine JC_region ?_
    refine JL_1 rfl (by first | exact op_loadRefsN (n := 9) (Ev.rfl' rfl) rfl rfl rfl (by rfl) nrmT | exact op_loadPtrsN (n := 9) (Ev.rfl' rfl) memT (by rfl) (by rfl) (by rfl) (by rfl) nrmT) ?_
    refine JL_1 rfl (op_call Try.call17 (ReadNode_ok (writeN q n).1) ⟨evS, trivial⟩) ?_
    refine JL_1 rfl (op_move rfl) ?_
    refine JL_1 rfl (op_extract (Ev.rfl' rfl) rfl) ?_
    refine JL_1 rfl (op_extract (Ev.rfl' rfl) rfl) ?_
    (refine JL_n rfl (op_allocN rfl nrmT rfl) ?_; intro i14)
    refine JL_s0 (op_storeN (Ev.rfl' rfl) (Ev.rfl' rfl) cellsT replT nrmT (by rfl) (by rfl) (by rfl)) ?_
    refine JL_1 rfl (op_assign rfl) ?_
    refine JL_nil ?_
    refine JQ_then (JC_seq ?_)
    refine JC_region ?_
    refine JL_1 rfl (op_move rfl) ?_
    refine JL_1 rfl (op_neq (Ev.rfl' rfl) (Ev.rfl' rfl)) ?_
    refine JL_1 rfl (op_move rfl) ?_
    (first | refine JL_i0 rfl rfl rfl (fun hg => (by have hg0 := hg; (try simp at hg); first | exact op_loadRefsN (n := 16) evG rfl rfl rfl (by rfl) nrmT | exact op_loadPtrsN (n := 16) evG memT (by rfl) (by rfl) (by rfl) (by rfl) nrmT)) ?_ | refine JL_i rfl rfl rfl (fun hp hg => (by have hpg := Bool.and_eq_true_iff.2 ⟨hp, hg⟩; have hg0 := hg; (try simp at hg); first | exact op_loadRefsN (n := 16) evG rfl rfl rfl (by rfl) nrmT | exact op_loadPtrsN (n := 16) evG memT (by rfl) (by rfl) (by rfl) (by rfl) nrmT)) ?_)
    (first | refine JL_i0 rfl rfl rfl (fun hg => (by have hg0 := hg; (try simp at hg); first | exact op_loadRefsN (n := 16) evG rfl rfl rfl (by rfl) nrmT | exact op_loadPtrsN (n := 16) evG memT (by rfl) (by rfl) (by rfl) (by rfl) nrmT)) ?_ | refine JL_i rfl rfl rfl (fun hp hg => (by have hpg := Bool.and_eq_true_iff.2 ⟨hp, hg⟩; have hg0 := hg; (try simp at hg); first | exact op_loadRefsN (n := 16) evG rfl rfl rfl (by rfl) nrmT | exact op_loadPtrsN (n := 16) evG memT (by rfl) (by rfl) (by rfl) (by rfl) nrmT)) ?_)
    (first | refine JL_i0 rfl rfl rfl (fun hg => (by have hg0 := hg; (try simp at hg); exact op_cmpA (vs := (readN (writeN q n).1).1.cells) (ws := n.cells) evG evG (eqNd_guard _ _ _ _ _) (eqNd_neq _ _))) ?_ | refine JL_i rfl rfl rfl (fun hp hg => (by have hpg := Bool.and_eq_true_iff.2 ⟨hp, hg⟩; have hg0 := hg; (try simp at hg); exact op_cmpA (vs := (readN (writeN q n).1).1.cells) (ws := n.cells) evG evG (eqNd_guard _ _ _ _ _) (eqNd_neq _ _))) ?_)
    refine JL_1 rfl (op_or (Ev.rfl' rfl) rfl (fun h => by first | exact SubL.rfl' | exact SubL.iteT (by first | (rw [h]; rfl) | (simp_all; done)) SubL.rfl')) ?_
    refine JL_1 rfl (op_move rfl) ?_
    (first | refine JL_i0 rfl rfl rfl (fun hg => (by have hg0 := hg; (try simp at hg); first | exact op_fieldPtr (k := 0) evG rfl rfl rfl rfl | exact op_fieldRefN (k := 0) evG rfl rfl rfl rfl nrmT)) ?_ | refine JL_i rfl rfl rfl (fun hp hg => (by have hpg := Bool.and_eq_true_iff.2 ⟨hp, hg⟩; have hg0 := hg; (try simp at hg); first | exact op_fieldPtr (k := 0) evG rfl rfl rfl rfl | exact op_fieldRefN (k := 0) evG rfl rfl rfl rfl nrmT)) ?_)
    (first | refine JL_i0 rfl rfl rfl (fun hg => (by have hg0 := hg; (try simp at hg); first | exact op_loadRef evG rfl rfl rfl | exact op_loadPtr evG memT (by rfl) (by rfl) (by rfl))) ?_ | refine JL_i rfl rfl rfl (fun hp hg => (by have hpg := Bool.and_eq_true_iff.2 ⟨hp, hg⟩; have hg0 := hg; (try simp at hg); first | exact op_loadRef evG rfl rfl rfl | exact op_loadPtr evG memT (by rfl) (by rfl) (by rfl))) ?_)
    (first | refine JL_i0 rfl rfl rfl (fun hg => (by have hg0 := hg; (try simp at hg); first | exact op_fieldPtr (k := 0) evG rfl rfl rfl rfl | exact op_fieldRefN (k := 0) evG rfl rfl rfl rfl nrmT)) ?_ | refine JL_i rfl rfl rfl (fun hp hg => (by have hpg := Bool.and_eq_true_iff.2 ⟨hp, hg⟩; have hg0 := hg; (try simp at hg); first | exact op_fieldPtr (k := 0) evG rfl rfl rfl rfl | exact op_fieldRefN (k := 0) evG rfl rfl rfl rfl nrmT)) ?_)
    (first | refine JL_i0 rfl rfl rfl (fun hg => (by have hg0 := hg; (try simp at hg); first | exact op_loadRef evG rfl rfl rfl | exact op_loadPtr evG memT (by rfl) (by rfl) (by rfl))) ?_ | refine JL_i rfl rfl rfl (fun hp hg => (by have hpg := Bool.and_eq_true_iff.2 ⟨hp, hg⟩; have hg0 := hg; (try simp at hg); first | exact op_loadRef evG rfl rfl rfl | exact op_loadPtr evG memT (by rfl) (by rfl) (by rfl))) ?_)
    (first | refine JL_i0 rfl rfl rfl (fun hg => (by have hg0 := hg; (try simp at hg); exact op_neq evG evG)) ?_ | refine JL_i rfl rfl rfl (fun hp hg => (by have hpg := Bool.and_eq_true_iff.2 ⟨hp, hg⟩; have hg0 := hg; (try simp at hg); exact op_neq evG evG)) ?_)
    refine JL_1 rfl (op_or (Ev.rfl' rfl) rfl (fun h => by first | exact SubL.rfl' | exact SubL.iteT (by first | (rw [h]; rfl) | (simp_all; done)) SubL.rfl')) ?_
    refine JL_1 rfl (op_move rfl) ?_
    (first | refine JL_i0 rfl rfl rfl (fun hg => (by have hg0 := hg; (try simp at hg); first | exact op_fieldPtr (k := 1) evG rfl rfl rfl rfl | exact op_fieldRefN (k := 1) evG rfl rfl rfl rfl nrmT)) ?_ | refine JL_i rfl rfl rfl (fun hp hg => (by have hpg := Bool.and_eq_true_iff.2 ⟨hp, hg⟩; have hg0 := hg; (try simp at hg); first | exact op_fieldPtr (k := 1) evG rfl rfl rfl rfl | exact op_fieldRefN (k := 1) evG rfl rfl rfl rfl nrmT)) ?_)
    (first | refine JL_i0 rfl rfl rfl (fun hg => (by have hg0 := hg; (try simp at hg); first | exact op_loadRef evG rfl rfl rfl | exact op_loadPtr evG memT (by rfl) (by rfl) (by rfl))) ?_ | refine JL_i rfl rfl rfl (fun hp hg => (by have hpg := Bool.and_eq_true_iff.2 ⟨hp, hg⟩; have hg0 := hg; (try simp at hg); first | exact op_loadRef evG rfl rfl rfl | exact op_loadPtr evG memT (by rfl) (by rfl) (by rfl))) ?_)
    (first | refine JL_i0 rfl rfl rfl (fun hg => (by have hg0 := hg; (try simp at hg); first | exact op_fieldPtr (k := 1) evG rfl rfl rfl rfl | exact op_fieldRefN (k := 1) evG rfl rfl rfl rfl nrmT)) ?_ | refine JL_i rfl rfl rfl (fun hp hg => (by have hpg := Bool.and_eq_true_iff.2 ⟨hp, hg⟩; have hg0 := hg; (try simp at hg); first | exact op_fieldPtr (k := 1) evG rfl rfl rfl rfl | exact op_fieldRefN (k := 1) evG rfl rfl rfl rfl nrmT)) ?_)
    (first | refine JL_i0 rfl rfl rfl (fun hg => (by have hg0 := hg; (try simp at hg); first | exact op_loadRef evG rfl rfl rfl | exact op_loadPtr evG memT (by rfl) (by rfl) (by rfl))) ?_ | refine JL_i rfl rfl rfl (fun hp hg => (by have hpg := Bool.and_eq_true_iff.2 ⟨hp, hg⟩; have hg0 := hg; (try simp at hg); first | exact op_loadRef evG rfl rfl rfl | exact op_loadPtr evG memT (by rfl) (by rfl) (by rfl))) ?_)
    (first | refine JL_i0 rfl rfl rfl (fun hg => (by have hg0 := hg; (try simp at hg); exact op_neq evG evG)) ?_ | refine JL_i rfl rfl rfl (fun hp hg => (by have hpg := Bool.and_eq_true_iff.2 ⟨hp, hg⟩; have hg0 := hg; (try simp at hg); exact op_neq evG evG)) ?_)
    refine JL_1 rfl (op_or (Ev.rfl' rfl) rfl (fun h => by first | exact SubL.rfl' | exact SubL.iteT (by first | (rw [h]; rfl) | (simp_all; done)) SubL.rfl')) ?_
    refine JL_nil ?_
    refine JQ_then ?_
    refine JC_cond (Ev.rfl' rfl) (fun h10 => ?_) (fun h10 => ?_)
    · exact absurd h10 (by rw [b4, b5, b6]; simp)
    refine JC_skip (JQ_then (JC_seq ?_))
    refine JC_region ?_
    refine JL_1 rfl (op_call Try.call19 (awake_ok) trivial) ?_
    refine JL_1 rfl (op_assign rfl) ?_
    refine JL_nil ?_
    refine JQ_then (JC_ret ?_)
    refine JQ_ret1 Try.results4 rfl () (SubL.eq ?_) (List.nil_sublist _)
    rfl
  refine JC_skip (JQ_then (JC_seq ?_))
  refine JC_region ?_
  refine JL_1 rfl (op_call Try.call19 (awake_ok) trivial) ?_
  refine JL_1 rfl (op_assign rfl) ?_
  refine JL_nil ?_
  refine JQ_then (JC_ret ?_)
  refine JQ_ret1 Try.results4 rfl () (SubL.eq ?_) (List.nil_sublist _)
  rfl
theorem tmr32 {n : Int} (h : 0 ≤ n) (m : Int) (hm : 0 < m ∧ m ≤ 4294967296) : 0 ≤ n.tmod m ∧ n.tmod m < 4294967296 := by
  have h1 := Int.tmod_nonneg m h
  have h2 := Int.tmod_lt_of_pos n hm.1
  omega
theorem wrr32 (n : Int) : 0 ≤ IntKind.u32.wrap n ∧ IntKind.u32.wrap n < 4294967296 := by
  rw [wrap_u32_mod]; omega
-- bodegalaw20.SegmentPages: function 3
set_option maxHeartbeats 4000000 in
theorem SegmentPages_ok (p : Pg) (kind : Int) (h : Hd) (n : Nd) : FnP Try.prog 3 [IsPg p, Is (.int .i64 kind), IsHd h, IsNd n] (Is (.bool true)) := by
  refine FnP.enter Try.func3 Try.ntmps3 rfl rfl ?_
  intro c hX
  refine JC_seq ?_
  refine JC_region ?_
  (refine JL_n rfl (op_box (Ev.rfl' rfl) cellsT) ?_; intro i4)
  (refine JL_n rfl (op_box (Ev.rfl' rfl) cellsT) ?_; intro i6)
  (refine JL_n rfl (op_box (Ev.rfl' rfl) cellsT) ?_; intro i7)
  refine JL_1 rfl (op_assign rfl) ?_
  refine JL_nil ?_
  refine JQ_then (JC_seq ?_)
  refine JC_region ?_
  refine JL_1 rfl (by first | exact op_loadRefsN (n := 9) (Ev.rfl' rfl) rfl rfl rfl (by rfl) nrmT | exact op_loadPtrsN (n := 9) (Ev.rfl' rfl) memT (by rfl) (by rfl) (by rfl) (by rfl) nrmT) ?_
  refine JL_1 rfl (op_move rfl) ?_
  refine JL_1 rfl (op_call Try.call13 (nearby_ok _ _) ⟨evS, ⟨evS, trivial⟩⟩) ?_
  (refine JL_ex 24 rfl ?_; intro pg)
  refine JL_s0 (op_storeN (Ev.rfl' rfl) (Ev.rfl' rfl) cellsT replT nrmT (by rfl) (by rfl) (by rfl)) ?_
  refine JL_nil ?_
  refine JQ_then (JC_seq (JC_seq ?_))
  refine JC_region ?_
  refine JL_1 rfl (op_move rfl) ?_
  refine JL_1 rfl (op_quo (Ev.rfl' rfl) (Ev.rfl' rfl) (by omega) wrapT) ?_
  refine JL_1 rfl (by first | ((refine op_call Try.call14 (PickH_ok _ _ ?_ ?_) ⟨evS, ⟨evS, trivial⟩⟩); all_goals (first | omega))) ?_
  refine JL_1 rfl (op_gtr (Ev.rfl' rfl) (Ev.rfl' rfl)) ?_
  refine JL_nil ?_
  refine JQ_then ?_
  refine JC_cutT (fun z : Hd × Nd => True) (fun z => [(4, Is (.pointer (some ⟨i4, 0, none⟩))), (6, Is (.pointer (some ⟨i6, 0, none⟩))), (7, Is (.pointer (some ⟨i7, 0, none⟩)))]) (fun z => [blk i4 25 (tPg.cells pg), blk i6 28 (tHd.cells z.1), blk i7 35 (tNd.cells z.2)]) ?_ ?_
  rotate_left
  focus
    refine JC_cond (Ev.rfl' rfl) (fun h2 => ?_) (fun h2 => ?_)
    · clear h2
      refine JC_seq ?_
      refine JC_region ?_
      refine JL_1 rfl (by first | exact op_fieldPtr (k := 0) (Ev.rfl' rfl) rfl rfl rfl rfl | exact op_fieldRefN (k := 0) (Ev.rfl' rfl) rfl rfl rfl rfl nrmT) ?_
      refine JL_1 rfl (by first | exact op_loadRef (Ev.rfl' rfl) rfl rfl rfl | exact op_loadPtr (Ev.rfl' rfl) memT (by rfl) (by rfl) (by rfl)) ?_
      refine JL_1 rfl (by first | ((refine op_call Try.call14 (PickH_ok _ _ ?_ ?_) ⟨evS, ⟨evS, trivial⟩⟩); all_goals (first | omega))) ?_
      refine JL_1 rfl (op_sub (Ev.rfl' rfl) (Ev.rfl' rfl) wrapT) ?_
      refine JL_1 rfl (by first | exact op_fieldPtr (k := 0) (Ev.rfl' rfl) rfl rfl rfl rfl | exact op_fieldRefN (k := 0) (Ev.rfl' rfl) rfl rfl rfl rfl nrmT) ?_
      refine JL_s0 (op_storeN (Ev.rfl' rfl) (Ev.rfl' rfl) cellsT replT nrmT (by rfl) (by rfl) (by rfl)) ?_
      refine JL_nil ?_
      refine JQ_then (JC_seq ?_)
      refine JC_region ?_
      refine JL_1 rfl (by first | exact op_fieldPtr (k := 1) (Ev.rfl' rfl) rfl rfl rfl rfl | exact op_fieldRefN (k := 1) (Ev.rfl' rfl) rfl rfl rfl rfl nrmT) ?_
      refine JL_1 rfl (by first | exact op_loadRef (Ev.rfl' rfl) rfl rfl rfl | exact op_loadPtr (Ev.rfl' rfl) memT (by rfl) (by rfl) (by rfl)) ?_
      refine JL_1 rfl (op_rem (Ev.rfl' rfl) (Ev.rfl' rfl) (by omega) rfl) ?_
      refine JL_1 rfl (by first | exact op_fieldPtr (k := 1) (Ev.rfl' rfl) rfl rfl rfl rfl | exact op_fieldRefN (k := 1) (Ev.rfl' rfl) rfl rfl rfl rfl nrmT) ?_
      refine JL_1 rfl (by first | exact op_loadRef (Ev.rfl' rfl) rfl rfl rfl | exact op_loadPtr (Ev.rfl' rfl) memT (by rfl) (by rfl) (by rfl)) ?_
      refine JL_1 rfl (by first | exact op_shrU32 (k := _) ev32 (Ev.rfl' rfl) (by first | omega | exact UV_nonneg _) idxT | exact op_shr (Ev.rfl' rfl) (Ev.rfl' rfl) (by first | omega | exact UV_nonneg _) rfl) ?_
      (refine JL_u32 36 rfl (tmr32 (UV_nonneg _) _ (by decide)) ?_; intro e1 _)
      refine JL_1 rfl (by first | exact op_bits ev32 ev32 (by simp) (andNot_u32 _ _) | exact op_bits (Ev.rfl' rfl) (Ev.rfl' rfl) (by simp) rfl) ?_
      refine JL_1 rfl (by first | exact op_fieldPtr (k := 1) (Ev.rfl' rfl) rfl rfl rfl rfl | exact op_fieldRefN (k := 1) (Ev.rfl' rfl) rfl rfl rfl rfl nrmT) ?_
      refine JL_s0 (op_storeN (Ev.rfl' rfl) (Ev.rfl' rfl) cellsT replT nrmT (by rfl) (by rfl) (by rfl)) ?_
      refine JL_nil ?_
      refine JQ_then (JC_seq ?_)
      refine JC_dr rfl (by kernel_rfl) ?_
      refine JD_phase [1, 1, 0, 1, 1, 1, 0, 1, 2, 1, 2] (by kernel_rfl) (by kernel_rfl) ?_
      refine PW_1 (by first | exact op_fieldPtr (k := 2) (Ev.rfl' rfl) rfl rfl rfl rfl | exact op_fieldRefN (k := 2) (Ev.rfl' rfl) rfl rfl rfl rfl nrmT) ?_
      refine PW_1 (by first | exact op_loadRef (Ev.rfl' rfl) rfl rfl rfl | exact op_loadPtr (Ev.rfl' rfl) memT (by rfl) (by rfl) (by rfl)) ?_
      refine PW_0 (op_rem (Ev.rfl' rfl) (Ev.rfl' rfl) (by omega) rfl) ?_
      refine PW_1 (by first | exact op_fieldPtr (k := 3) (Ev.rfl' rfl) rfl rfl rfl rfl | exact op_fieldRefN (k := 3) (Ev.rfl' rfl) rfl rfl rfl rfl nrmT) ?_
      refine PW_1 (by first | exact op_loadRef (Ev.rfl' rfl) rfl rfl rfl | exact op_loadPtr (Ev.rfl' rfl) memT (by rfl) (by rfl) (by rfl)) ?_
      refine PW_1 (by first | ((refine op_call Try.call14 (PickH_ok _ _ ?_ ?_) ⟨evS, ⟨evS, trivial⟩⟩); all_goals (first | omega))) ?_
      refine PW_0 (op_sub (Ev.rfl' rfl) (Ev.rfl' rfl) wrapT) ?_
      refine PW_1 (by first | exact op_fieldPtr (k := 2) (Ev.rfl' rfl) rfl rfl rfl rfl | exact op_fieldRefN (k := 2) (Ev.rfl' rfl) rfl rfl rfl rfl nrmT) ?_
      refine PW_2 (op_storeN (Ev.rfl' rfl) (Ev.rfl' rfl) cellsT replT nrmT (by rfl) (by rfl) (by rfl)) ?_
      refine PW_1 (by first | exact op_fieldPtr (k := 3) (Ev.rfl' rfl) rfl rfl rfl rfl | exact op_fieldRefN (k := 3) (Ev.rfl' rfl) rfl rfl rfl rfl nrmT) ?_
      refine PW_2 (op_storeN (Ev.rfl' rfl) (Ev.rfl' rfl) cellsT replT nrmT (by rfl) (by rfl) (by rfl)) ?_
      refine PW_end ?_
      refine JD_end ?_
      refine JQ_then (JC_seq (JC_seq ?_))
      refine JC_blkEq (b := i7) (As' := tNd.cells ⟨n.pin, n.ep, BitVec.ofInt 32 ((UV n.sg).tmod 520), n.inc % 204 - 1, n.r0, n.r1, n.r2, n.r3⟩) replT ?_ ?_
      · show _ = [Is (.bool n.pin), Is (.int .u32 (UV n.ep)), Is (.int .u32 (UV (BitVec.ofInt 32 ((UV n.sg).tmod 520)))), Is (.int .i64 (n.inc % 204 - 1)), Is (.int .i64 n.r0.to.line), Is (.int .i64 n.r0.to.gen), Is (.int .u32 (UV n.r0.ep)), Is (.int .i64 n.r1.to.line), Is (.int .i64 n.r1.to.gen), Is (.int .u32 (UV n.r1.ep)), Is (.int .i64 n.r2.to.line), Is (.int .i64 n.r2.to.gen), Is (.int .u32 (UV n.r2.ep)), Is (.int .i64 n.r3.to.line), Is (.int .i64 n.r3.to.gen), Is (.int .u32 (UV n.r3.ep))]
        rw [UV_ofInt32 (tmr32 (UV_nonneg _) _ (by decide))]
      obtain ⟨n1, hn1⟩ : ∃ x : Nd, x = ⟨n.pin, n.ep, BitVec.ofInt 32 ((UV n.sg).tmod 520), n.inc % 204 - 1, n.r0, n.r1, n.r2, n.r3⟩ := ⟨_, rfl⟩
      rw [← hn1]
      refine JC_region ?_
      refine JL_1 rfl (op_assign rfl) ?_
      refine JL_nil ?_
      refine JQ_then (JC_block ?_)
      refine JC_loopP (fun z : Nat × Nd => z.1 ≤ 4) (fun z => [(4, Is (.pointer (some ⟨i4, 0, none⟩))), (6, Is (.pointer (some ⟨i6, 0, none⟩))), (7, Is (.pointer (some ⟨i7, 0, none⟩))), (9, Is (.int .i64 (z.1 : Nat)))]) (fun z => [blk i4 25 (tPg.cells pg), blk i6 28 (tHd.cells ⟨h.owner % 9 - 2, e1 &&& ~~~(h.used >>> 31)⟩), blk i7 35 (tNd.cells z.2)]) (fun z => 4 - z.1) (0, n1) (Nat.zero_le _) esubT lessT ?_
      rintro ⟨k, q⟩ hk
      dsimp only at hk ⊢
      refine JC_seq (JC_seq ?_)
      refine JC_region ?_
      refine JL_1 rfl (op_move rfl) ?_
      refine JL_1 rfl (op_lss (Ev.rfl' rfl) (Ev.rfl' rfl)) ?_
      refine JL_nil ?_
      refine JQ_then ?_
      refine JC_cond (Ev.rfl' rfl) (fun h7 => ?_) (fun h7 => ?_)
      · have hk4 : k = 0 ∨ k = 1 ∨ k = 2 ∨ k = 3 := by have := of_decide_eq_true h7; omega
        clear h7 hk
        rcases hk4 with rfl | rfl | rfl | rfl
        all_goals
          refine JC_skip (JQ_then (JC_seq (JC_block (JC_seq ?_))))
          refine JC_dr rfl (by kernel_rfl) ?_
          refine JD_phase [0, 0, 1, 1, 1, 1, 1, 1, 0, 0, 1, 1, 1, 1, 1, 1, 1, 1, 1, 1, 2] (by kernel_rfl) (by kernel_rfl) ?_
          refine PW_0 (op_move rfl) ?_
          refine PW_0 (op_move rfl) ?_
          refine PW_1 (by first | exact op_fieldPtr (k := 4) (Ev.rfl' rfl) rfl rfl rfl rfl | exact op_fieldRefN (k := 4) (Ev.rfl' rfl) rfl rfl rfl rfl nrmT) ?_
          refine PW_1 (op_indexArr (k := _) (sz := 3) (Ev.rfl' rfl) (Ev.rfl' rfl) rfl rfl idxT (by first | decide | omega)) ?_
          refine PW_1 (by first | exact op_fieldPtr (k := 0) (Ev.rfl' rfl) rfl rfl rfl rfl | exact op_fieldRefN (k := 0) (Ev.rfl' rfl) rfl rfl rfl rfl nrmT) ?_
          refine PW_1 (by first | exact op_fieldPtr (k := 0) (Ev.rfl' rfl) rfl rfl rfl rfl | exact op_fieldRefN (k := 0) (Ev.rfl' rfl) rfl rfl rfl rfl nrmT) ?_
          refine PW_1 (by first | exact op_loadRef (Ev.rfl' rfl) rfl rfl rfl | exact op_loadPtr (Ev.rfl' rfl) memT (by rfl) (by rfl) (by rfl)) ?_
          refine PW_1 (by first | ((refine op_call Try.call14 (PickH_ok _ _ ?_ ?_) ⟨evS, ⟨evS, trivial⟩⟩); all_goals (first | omega))) ?_
          refine PW_0 (op_add (Ev.rfl' rfl) (Ev.rfl' rfl) wrapT) ?_
          refine PW_0 (op_move rfl) ?_
          refine PW_1 (by first | exact op_fieldPtr (k := 4) (Ev.rfl' rfl) rfl rfl rfl rfl | exact op_fieldRefN (k := 4) (Ev.rfl' rfl) rfl rfl rfl rfl nrmT) ?_
          refine PW_1 (op_indexArr (k := _) (sz := 3) (Ev.rfl' rfl) (Ev.rfl' rfl) rfl rfl idxT (by first | decide | omega)) ?_
          refine PW_1 (by first | exact op_fieldPtr (k := 0) (Ev.rfl' rfl) rfl rfl rfl rfl | exact op_fieldRefN (k := 0) (Ev.rfl' rfl) rfl rfl rfl rfl nrmT) ?_
          refine PW_1 (by first | exact op_fieldPtr (k := 1) (Ev.rfl' rfl) rfl rfl rfl rfl | exact op_fieldRefN (k := 1) (Ev.rfl' rfl) rfl rfl rfl rfl nrmT) ?_
          refine PW_1 (by first | exact op_loadRef (Ev.rfl' rfl) rfl rfl rfl | exact op_loadPtr (Ev.rfl' rfl) memT (by rfl) (by rfl) (by rfl)) ?_
          refine PW_1 (by first | ((refine op_call Try.call14 (PickH_ok _ _ ?_ ?_) ⟨evS, ⟨evS, trivial⟩⟩); all_goals (first | omega))) ?_
          refine PW_1 (op_buildN (qs := [(0, _), (1, _)]) rfl rfl rfl rfl ⟨⟨rfl, _, (Ev.rfl' rfl), cellsT⟩, ⟨⟨rfl, _, (Ev.rfl' rfl), cellsT⟩, trivial⟩⟩ (by rfl) nrmT) ?_
          refine PW_1 (by first | exact op_fieldPtr (k := 4) (Ev.rfl' rfl) rfl rfl rfl rfl | exact op_fieldRefN (k := 4) (Ev.rfl' rfl) rfl rfl rfl rfl nrmT) ?_
          refine PW_1 (op_indexArr (k := _) (sz := 3) (Ev.rfl' rfl) (Ev.rfl' rfl) rfl rfl idxT (by first | decide | omega)) ?_
          refine PW_1 (by first | exact op_fieldPtr (k := 0) (Ev.rfl' rfl) rfl rfl rfl rfl | exact op_fieldRefN (k := 0) (Ev.rfl' rfl) rfl rfl rfl rfl nrmT) ?_
          refine PW_2 (op_storeN (Ev.rfl' rfl) (Ev.rfl' rfl) cellsT replT nrmT (by rfl) (by rfl) (by rfl)) ?_
          refine PW_end ?_
          refine JD_end ?_
          refine JQ_then (JC_seq ?_)
          refine JC_region ?_
          refine JL_1 rfl (op_move rfl) ?_
          refine JL_1 rfl (by first | exact op_fieldPtr (k := 4) (Ev.rfl' rfl) rfl rfl rfl rfl | exact op_fieldRefN (k := 4) (Ev.rfl' rfl) rfl rfl rfl rfl nrmT) ?_
          refine JL_1 rfl (op_indexArr (k := _) (sz := 3) (Ev.rfl' rfl) (Ev.rfl' rfl) rfl rfl idxT (by first | decide | omega)) ?_
          refine JL_1 rfl (by first | exact op_fieldPtr (k := 0) (Ev.rfl' rfl) rfl rfl rfl rfl | exact op_fieldRefN (k := 0) (Ev.rfl' rfl) rfl rfl rfl rfl nrmT) ?_
          refine JL_1 rfl (by first | exact op_fieldPtr (k := 1) (Ev.rfl' rfl) rfl rfl rfl rfl | exact op_fieldRefN (k := 1) (Ev.rfl' rfl) rfl rfl rfl rfl nrmT) ?_
          refine JL_1 rfl (by first | exact op_loadRef (Ev.rfl' rfl) rfl rfl rfl | exact op_loadPtr (Ev.rfl' rfl) memT (by rfl) (by rfl) (by rfl)) ?_
          refine JL_1 rfl (op_eql (Ev.rfl' rfl) (Ev.rfl' rfl)) ?_
          refine JL_nil ?_
          refine JQ_then ?_
          refine JC_cond (Ev.rfl' rfl) (fun h10 => ?_) (fun h10 => ?_)
          · have hzr : True := trivial
            refine JC_region ?_
            refine JL_1 rfl (op_move rfl) ?_
            refine JL_1 rfl (op_buildN (qs := []) rfl rfl rfl rfl trivial (by rfl) nrmT) ?_
            refine JL_1 rfl (by first | exact op_fieldPtr (k := 4) (Ev.rfl' rfl) rfl rfl rfl rfl | exact op_fieldRefN (k := 4) (Ev.rfl' rfl) rfl rfl rfl rfl nrmT) ?_
            refine JL_1 rfl (op_indexArr (k := _) (sz := 3) (Ev.rfl' rfl) (Ev.rfl' rfl) rfl rfl idxT (by first | decide | omega)) ?_
            refine JL_s0 (op_storeN (Ev.rfl' rfl) (Ev.rfl' rfl) cellsT replT nrmT (by rfl) (by rfl) (by rfl)) ?_
            refine JL_nil ?_
            refine JQ_block (JQ_then ?_)
            refine JC_region ?_
            refine JL_1 rfl (op_move rfl) ?_
            refine JL_1 rfl (op_add (Ev.rfl' rfl) (Ev.rfl' rfl) wrapT) ?_
            refine JL_1 rfl (op_assign rfl) ?_
            refine JL_nil ?_
            first
              | (guard_hyp hzr : True; exact JQ_roundP (1, { q with r0 := Re.nil }) (by dsimp only; omega) (by dsimp only; omega) esubT lessT)
              | (guard_hyp hzr : True; exact JQ_roundP (2, { q with r1 := Re.nil }) (by dsimp only; omega) (by dsimp only; omega) esubT lessT)
              | (guard_hyp hzr : True; exact JQ_roundP (3, { q with r2 := Re.nil }) (by dsimp only; omega) (by dsimp only; omega) esubT lessT)
              | (guard_hyp hzr : True; exact JQ_roundP (4, { q with r3 := Re.nil }) (by dsimp only; omega) (by dsimp only; omega) esubT lessT)
              | (exact JQ_roundP (1, { q with r0 := ⟨⟨100 + q.r0.to.line % 158, q.r0.to.gen % 4⟩, q.r0.ep⟩ }) (by dsimp only; omega) (by dsimp only; omega) esubT lessT)
              | (exact JQ_roundP (2, { q with r1 := ⟨⟨100 + q.r1.to.line % 158, q.r1.to.gen % 4⟩, q.r1.ep⟩ }) (by dsimp only; omega) (by dsimp only; omega) esubT lessT)
              | (exact JQ_roundP (3, { q with r2 := ⟨⟨100 + q.r2.to.line % 158, q.r2.to.gen % 4⟩, q.r2.ep⟩ }) (by dsimp only; omega) (by dsimp only; omega) esubT lessT)
              | (exact JQ_roundP (4, { q with r3 := ⟨⟨100 + q.r3.to.line % 158, q.r3.to.gen % 4⟩, q.r3.ep⟩ }) (by dsimp only; omega) (by dsimp only; omega) esubT lessT)
          refine JC_skip (JQ_block (JQ_then ?_))
          refine JC_region ?_
          refine JL_1 rfl (op_move rfl) ?_
          refine JL_1 rfl (op_add (Ev.rfl' rfl) (Ev.rfl' rfl) wrapT) ?_
          refine JL_1 rfl (op_assign rfl) ?_
          refine JL_nil ?_
          first
            | (guard_hyp hzr : True; exact JQ_roundP (1, { q with r0 := Re.nil }) (by dsimp only; omega) (by dsimp only; omega) esubT lessT)
            | (guard_hyp hzr : True; exact JQ_roundP (2, { q with r1 := Re.nil }) (by dsimp only; omega) (by dsimp only; omega) esubT lessT)
            | (guard_hyp hzr : True; exact JQ_roundP (3, { q with r2 := Re.nil }) (by dsimp only; omega) (by dsimp only; omega) esubT lessT)
            | (guard_hyp hzr : True; exact JQ_roundP (4, { q with r3 := Re.nil }) (by dsimp only; omega) (by dsimp only; omega) esubT lessT)
            | (exact JQ_roundP (1, { q with r0 := ⟨⟨100 + q.r0.to.line % 158, q.r0.to.gen % 4⟩, q.r0.ep⟩ }) (by dsimp only; omega) (by dsimp only; omega) esubT lessT)
            | (exact JQ_roundP (2, { q with r1 := ⟨⟨100 + q.r1.to.line % 158, q.r1.to.gen % 4⟩, q.r1.ep⟩ }) (by dsimp only; omega) (by dsimp only; omega) esubT lessT)
            | (exact JQ_roundP (3, { q with r2 := ⟨⟨100 + q.r2.to.line % 158, q.r2.to.gen % 4⟩, q.r2.ep⟩ }) (by dsimp only; omega) (by dsimp only; omega) esubT lessT)
            | (exact JQ_roundP (4, { q with r3 := ⟨⟨100 + q.r3.to.line % 158, q.r3.to.gen % 4⟩, q.r3.ep⟩ }) (by dsimp only; omega) (by dsimp only; omega) esubT lessT)
      clear h7
      refine JC_exit (JQ_then_exit (JQ_then_exit (JQ_hit (JQ_then (JC_seq ?_)))))
      refine JC_region ?_
      refine JL_1 rfl (by first | exact op_fieldPtr (k := 0) (Ev.rfl' rfl) rfl rfl rfl rfl | exact op_fieldRefN (k := 0) (Ev.rfl' rfl) rfl rfl rfl rfl nrmT) ?_
      refine JL_1 rfl (by first | exact op_loadRef (Ev.rfl' rfl) rfl rfl rfl | exact op_loadPtr (Ev.rfl' rfl) memT (by rfl) (by rfl) (by rfl)) ?_
      refine JL_1 rfl (op_not (Ev.rfl' rfl)) ?_
      refine JL_nil ?_
      refine JQ_then ?_
      refine JC_cond (Ev.rfl' rfl) (fun h12 => ?_) (fun h12 => ?_)
      · clear h12
        refine JC_region ?_
        refine JL_1 rfl (by first | exact op_fieldPtr (k := 1) (Ev.rfl' rfl) rfl rfl rfl rfl | exact op_fieldRefN (k := 1) (Ev.rfl' rfl) rfl rfl rfl rfl nrmT) ?_
        refine JL_1 rfl (by first | exact op_loadRef (Ev.rfl' rfl) rfl rfl rfl | exact op_loadPtr (Ev.rfl' rfl) memT (by rfl) (by rfl) (by rfl)) ?_
        refine JL_1 rfl (op_rem (Ev.rfl' rfl) (Ev.rfl' rfl) (by omega) rfl) ?_
        refine JL_1 rfl (op_quo (Ev.rfl' rfl) (Ev.rfl' rfl) (by omega) wrapT) ?_
        refine JL_1 rfl (by first | exact op_fieldPtr (k := 1) (Ev.rfl' rfl) rfl rfl rfl rfl | exact op_fieldRefN (k := 1) (Ev.rfl' rfl) rfl rfl rfl rfl nrmT) ?_
        (refine JL_u32 92 rfl (wrr32 _) ?_; intro e2 _)
        refine JL_s0 (op_storeN (Ev.rfl' rfl) (Ev.rfl' rfl) cellsT replT nrmT (by rfl) (by rfl) (by rfl)) ?_
        refine JL_nil ?_
        exact JQ_meetP (⟨h.owner % 9 - 2, e1 &&& ~~~(h.used >>> 31)⟩, { q with ep := e2 }) trivial esubT lessT
      refine JC_skip ?_
      exact JQ_meetP (⟨h.owner % 9 - 2, e1 &&& ~~~(h.used >>> 31)⟩, q) trivial esubT lessT
    refine JC_skip ?_
    exact JQ_meetP (h, n) trivial esubT lessT
  rintro ⟨hh, nn⟩ _
  dsimp only
  refine JC_seq ?_
  refine JC_region ?_
  refine JL_1 rfl (by first | exact op_loadRefsN (n := 9) (Ev.rfl' rfl) rfl rfl rfl (by rfl) nrmT | exact op_loadPtrsN (n := 9) (Ev.rfl' rfl) memT (by rfl) (by rfl) (by rfl) (by rfl) nrmT) ?_
  refine JL_1 rfl (op_call Try.call15 (ReadHeader_ok _) ⟨evS, trivial⟩) ?_
  refine JL_1 rfl (op_move rfl) ?_
  refine JL_1 rfl (op_extract (Ev.rfl' rfl) rfl) ?_
  refine JL_1 rfl (op_extract (Ev.rfl' rfl) rfl) ?_
  (refine JL_n rfl (op_allocN rfl nrmT rfl) ?_; intro i10)
  refine JL_s0 (op_storeN (Ev.rfl' rfl) (Ev.rfl' rfl) cellsT replT nrmT (by rfl) (by rfl) (by rfl)) ?_
  refine JL_1 rfl (op_assign rfl) ?_
  refine JL_nil ?_
  refine JQ_then (JC_seq ?_)
  refine JC_region ?_
  refine JL_1 rfl (by first | exact op_loadRefsN (n := 9) (Ev.rfl' rfl) rfl rfl rfl (by rfl) nrmT | exact op_loadPtrsN (n := 9) (Ev.rfl' rfl) memT (by rfl) (by rfl) (by rfl) (by rfl) nrmT) ?_
  refine JL_1 rfl (op_call Try.call16 (ReadHeaderR_ok _) ⟨evS, trivial⟩) ?_
  refine JL_1 rfl (op_move rfl) ?_
  refine JL_1 rfl (op_extract (Ev.rfl' rfl) rfl) ?_
  refine JL_1 rfl (op_extract (Ev.rfl' rfl) rfl) ?_
  (refine JL_n rfl (op_allocN rfl nrmT rfl) ?_; intro i12)
  refine JL_s0 (op_storeN (Ev.rfl' rfl) (Ev.rfl' rfl) cellsT replT nrmT (by rfl) (by rfl) (by rfl)) ?_
  refine JL_1 rfl (op_assign rfl) ?_
  refine JL_nil ?_
  refine JQ_then (JC_seq ?_)
  refine JC_region ?_
  refine JL_1 rfl (by first | exact op_loadRefsN (n := 9) (Ev.rfl' rfl) rfl rfl rfl (by rfl) nrmT | exact op_loadPtrsN (n := 9) (Ev.rfl' rfl) memT (by rfl) (by rfl) (by rfl) (by rfl) nrmT) ?_
  refine JL_1 rfl (op_call Try.call17 (ReadNode_ok _) ⟨evS, trivial⟩) ?_
  refine JL_1 rfl (op_move rfl) ?_
  refine JL_1 rfl (op_extract (Ev.rfl' rfl) rfl) ?_
  refine JL_1 rfl (op_extract (Ev.rfl' rfl) rfl) ?_
  (refine JL_n rfl (op_allocN rfl nrmT rfl) ?_; intro i14)
  refine JL_s0 (op_storeN (Ev.rfl' rfl) (Ev.rfl' rfl) cellsT replT nrmT (by rfl) (by rfl) (by rfl)) ?_
  refine JL_1 rfl (op_assign rfl) ?_
  refine JL_nil ?_
  refine JQ_then (JC_seq ?_)
  refine JC_region ?_
  refine JL_1 rfl (by first | exact op_loadRefsN (n := 9) (Ev.rfl' rfl) rfl rfl rfl (by rfl) nrmT | exact op_loadPtrsN (n := 9) (Ev.rfl' rfl) memT (by rfl) (by rfl) (by rfl) (by rfl) nrmT) ?_
  refine JL_1 rfl (op_call Try.call18 (ReadNodeR_ok _) ⟨evS, trivial⟩) ?_
  refine JL_1 rfl (op_move rfl) ?_
  refine JL_1 rfl (op_extract (Ev.rfl' rfl) rfl) ?_
  refine JL_1 rfl (op_extract (Ev.rfl' rfl) rfl) ?_
  (refine JL_n rfl (op_allocN rfl nrmT rfl) ?_; intro i16)
  refine JL_s0 (op_storeN (Ev.rfl' rfl) (Ev.rfl' rfl) cellsT replT nrmT (by rfl) (by rfl) (by rfl)) ?_
  refine JL_1 rfl (op_assign rfl) ?_
  refine JL_nil ?_
  refine JQ_then (JC_seq (JC_seq ?_))
  refine JC_dr rfl (by kernel_rfl) ?_
  refine JD_stretch 24 (by kernel_rfl) ?_
  refine JW_1 (op_call Try.call19 (awake_ok) trivial) ?_
  refine JW_1 (op_not (Ev.rfl' rfl)) ?_
  refine JW_1 (op_move rfl) ?_
  (first | refine JW_i0 rfl rfl (fun hg => (by have hg0 := hg; (try simp at hg); first | exact op_moveE (Ev.sub rfl (SubL.iteT (by first | assumption | (simp; done) | (simp; omega) | (simp_all; done)) SubL.rfl')) | exact op_moveE (Ev.rfl' rfl))) ?_ | refine JW_i rfl rfl (fun hp hg => (by have hpg := Bool.and_eq_true_iff.2 ⟨hp, hg⟩; have hg0 := hg; (try simp at hg); first | exact op_moveE (Ev.sub rfl (SubL.iteT (by first | assumption | (simp; done) | (simp; omega) | (simp_all; done)) SubL.rfl')) | exact op_moveE (Ev.rfl' rfl))) ?_)
  (first | refine JW_i0 rfl rfl (fun hg => (by have hg0 := hg; (try simp at hg); first | exact op_moveE (Ev.sub rfl (SubL.iteT (by first | assumption | (simp; done) | (simp; omega) | (simp_all; done)) SubL.rfl')) | exact op_moveE (Ev.rfl' rfl))) ?_ | refine JW_i rfl rfl (fun hp hg => (by have hpg := Bool.and_eq_true_iff.2 ⟨hp, hg⟩; have hg0 := hg; (try simp at hg); first | exact op_moveE (Ev.sub rfl (SubL.iteT (by first | assumption | (simp; done) | (simp; omega) | (simp_all; done)) SubL.rfl')) | exact op_moveE (Ev.rfl' rfl))) ?_)
  (first | refine JW_i0 rfl rfl (fun hg => (by have hg0 := hg; (try simp at hg); exact op_neq evG evG)) ?_ | refine JW_i rfl rfl (fun hp hg => (by have hpg := Bool.and_eq_true_iff.2 ⟨hp, hg⟩; have hg0 := hg; (try simp at hg); exact op_neq evG evG)) ?_)
  refine JW_1 (op_or (Ev.rfl' rfl) rfl (fun h => by first | exact SubL.rfl' | exact SubL.iteT (by first | (rw [h]; rfl) | (simp_all; done)) SubL.rfl')) ?_
  refine JW_1 (op_move rfl) ?_
  (first | refine JW_i0 rfl rfl (fun hg => (by have hg0 := hg; (try simp at hg); first | exact op_moveE (Ev.sub rfl (SubL.iteT (by first | assumption | (simp; done) | (simp; omega) | (simp_all; done)) SubL.rfl')) | exact op_moveE (Ev.rfl' rfl))) ?_ | refine JW_i rfl rfl (fun hp hg => (by have hpg := Bool.and_eq_true_iff.2 ⟨hp, hg⟩; have hg0 := hg; (try simp at hg); first | exact op_moveE (Ev.sub rfl (SubL.iteT (by first | assumption | (simp; done) | (simp; omega) | (simp_all; done)) SubL.rfl')) | exact op_moveE (Ev.rfl' rfl))) ?_)
  (first | refine JW_i0 rfl rfl (fun hg => (by have hg0 := hg; (try simp at hg); first | exact op_moveE (Ev.sub rfl (SubL.iteT (by first | assumption | (simp; done) | (simp; omega) | (simp_all; done)) SubL.rfl')) | exact op_moveE (Ev.rfl' rfl))) ?_ | refine JW_i rfl rfl (fun hp hg => (by have hpg := Bool.and_eq_true_iff.2 ⟨hp, hg⟩; have hg0 := hg; (try simp at hg); first | exact op_moveE (Ev.sub rfl (SubL.iteT (by first | assumption | (simp; done) | (simp; omega) | (simp_all; done)) SubL.rfl')) | exact op_moveE (Ev.rfl' rfl))) ?_)
  (first | refine JW_i0 rfl rfl (fun hg => (by have hg0 := hg; (try simp at hg); exact op_neq evG evG)) ?_ | refine JW_i rfl rfl (fun hp hg => (by have hpg := Bool.and_eq_true_iff.2 ⟨hp, hg⟩; have hg0 := hg; (try simp at hg); exact op_neq evG evG)) ?_)
  refine JW_1 (op_or (Ev.rfl' rfl) rfl (fun h => by first | exact SubL.rfl' | exact SubL.iteT (by first | (rw [h]; rfl) | (simp_all; done)) SubL.rfl')) ?_
  refine JW_1 (op_move rfl) ?_
  (first | refine JW_i0 rfl rfl (fun hg => (by have hg0 := hg; (try simp at hg); first | exact op_loadRefsN (n := 2) evG rfl rfl rfl (by rfl) nrmT | exact op_loadPtrsN (n := 2) evG memT (by rfl) (by rfl) (by rfl) (by rfl) nrmT)) ?_ | refine JW_i rfl rfl (fun hp hg => (by have hpg := Bool.and_eq_true_iff.2 ⟨hp, hg⟩; have hg0 := hg; (try simp at hg); first | exact op_loadRefsN (n := 2) evG rfl rfl rfl (by rfl) nrmT | exact op_loadPtrsN (n := 2) evG memT (by rfl) (by rfl) (by rfl) (by rfl) nrmT)) ?_)
  (first | refine JW_i0 rfl rfl (fun hg => (by have hg0 := hg; (try simp at hg); exact op_call Try.call20 (headerC_ok _) ⟨evS, trivial⟩)) ?_ | refine JW_i rfl rfl (fun hp hg => (by have hpg := Bool.and_eq_true_iff.2 ⟨hp, hg⟩; have hg0 := hg; (try simp at hg); exact op_call Try.call20 (headerC_ok _) ⟨evS, trivial⟩)) ?_)
  (first | refine JW_i0 rfl rfl (fun hg => (by have hg0 := hg; (try simp at hg); first | exact op_loadRefsN (n := 2) evG rfl rfl rfl (by rfl) nrmT | exact op_loadPtrsN (n := 2) evG memT (by rfl) (by rfl) (by rfl) (by rfl) nrmT)) ?_ | refine JW_i rfl rfl (fun hp hg => (by have hpg := Bool.and_eq_true_iff.2 ⟨hp, hg⟩; have hg0 := hg; (try simp at hg); first | exact op_loadRefsN (n := 2) evG rfl rfl rfl (by rfl) nrmT | exact op_loadPtrsN (n := 2) evG memT (by rfl) (by rfl) (by rfl) (by rfl) nrmT)) ?_)
  (first | refine JW_i0 rfl rfl (fun hg => (by have hg0 := hg; (try simp at hg); exact op_cmpA (vs := (readH pg).1.cells) (ws := (readH pg).1.cells) evG evG (eqHdR_guard _ _ _ _ _) (eqHdR_neq _ _))) ?_ | refine JW_i rfl rfl (fun hp hg => (by have hpg := Bool.and_eq_true_iff.2 ⟨hp, hg⟩; have hg0 := hg; (try simp at hg); exact op_cmpA (vs := (readH pg).1.cells) (ws := (readH pg).1.cells) evG evG (eqHdR_guard _ _ _ _ _) (eqHdR_neq _ _))) ?_)
  refine JW_1 (op_or (Ev.rfl' rfl) rfl (fun h => by first | exact SubL.rfl' | exact SubL.iteT (by first | (rw [h]; rfl) | (simp_all; done)) SubL.rfl')) ?_
  refine JW_1 (op_move rfl) ?_
  (first | refine JW_i0 rfl rfl (fun hg => (by have hg0 := hg; (try simp at hg); first | exact op_loadRefsN (n := 16) evG rfl rfl rfl (by rfl) nrmT | exact op_loadPtrsN (n := 16) evG memT (by rfl) (by rfl) (by rfl) (by rfl) nrmT)) ?_ | refine JW_i rfl rfl (fun hp hg => (by have hpg := Bool.and_eq_true_iff.2 ⟨hp, hg⟩; have hg0 := hg; (try simp at hg); first | exact op_loadRefsN (n := 16) evG rfl rfl rfl (by rfl) nrmT | exact op_loadPtrsN (n := 16) evG memT (by rfl) (by rfl) (by rfl) (by rfl) nrmT)) ?_)
  (first | refine JW_i0 rfl rfl (fun hg => (by have hg0 := hg; (try simp at hg); exact op_call Try.call21 (nodeC_ok _) ⟨evS, trivial⟩)) ?_ | refine JW_i rfl rfl (fun hp hg => (by have hpg := Bool.and_eq_true_iff.2 ⟨hp, hg⟩; have hg0 := hg; (try simp at hg); exact op_call Try.call21 (nodeC_ok _) ⟨evS, trivial⟩)) ?_)
  (first | refine JW_i0 rfl rfl (fun hg => (by have hg0 := hg; (try simp at hg); first | exact op_loadRefsN (n := 16) evG rfl rfl rfl (by rfl) nrmT | exact op_loadPtrsN (n := 16) evG memT (by rfl) (by rfl) (by rfl) (by rfl) nrmT)) ?_ | refine JW_i rfl rfl (fun hp hg => (by have hpg := Bool.and_eq_true_iff.2 ⟨hp, hg⟩; have hg0 := hg; (try simp at hg); first | exact op_loadRefsN (n := 16) evG rfl rfl rfl (by rfl) nrmT | exact op_loadPtrsN (n := 16) evG memT (by rfl) (by rfl) (by rfl) (by rfl) nrmT)) ?_)
  (first | refine JW_i0 rfl rfl (fun hg => (by have hg0 := hg; (try simp at hg); exact op_cmpA (vs := (readN pg).1.cells) (ws := (readN pg).1.cells) evG evG (eqNdR_guard _ _ _ _ _) (eqNdR_neq _ _))) ?_ | refine JW_i rfl rfl (fun hp hg => (by have hpg := Bool.and_eq_true_iff.2 ⟨hp, hg⟩; have hg0 := hg; (try simp at hg); exact op_cmpA (vs := (readN pg).1.cells) (ws := (readN pg).1.cells) evG evG (eqNdR_guard _ _ _ _ _) (eqNdR_neq _ _))) ?_)
  refine JW_1 (op_or (Ev.rfl' rfl) rfl (fun h => by first | exact SubL.rfl' | exact SubL.iteT (by first | (rw [h]; rfl) | (simp_all; done)) SubL.rfl')) ?_
  refine ⟨rfl, ?_⟩
  refine JD_end ?_
  refine JQ_then ?_
  refine JC_cond (Ev.rfl' rfl) (fun h18 => ?_) (fun h18 => ?_)
  · exact absurd h18 (by simp)
  refine JC_skip (JQ_then (JC_seq ?_))
  refine JC_region ?_
  refine JL_1 rfl (by first | exact op_loadRefsN (n := 9) (Ev.rfl' rfl) rfl rfl rfl (by rfl) nrmT | exact op_loadPtrsN (n := 9) (Ev.rfl' rfl) memT (by rfl) (by rfl) (by rfl) (by rfl) nrmT) ?_
  refine JL_1 rfl (by first | exact op_loadRefsN (n := 2) (Ev.rfl' rfl) rfl rfl rfl (by rfl) nrmT | exact op_loadPtrsN (n := 2) (Ev.rfl' rfl) memT (by rfl) (by rfl) (by rfl) (by rfl) nrmT) ?_
  refine JL_1 rfl (op_call Try.call22 (WriteHeader_ok _ _) ⟨evS, ⟨evS, trivial⟩⟩) ?_
  refine JL_1 rfl (op_move rfl) ?_
  refine JL_1 rfl (op_extract (Ev.rfl' rfl) rfl) ?_
  refine JL_1 rfl (op_extract (Ev.rfl' rfl) rfl) ?_
  (refine JL_n rfl (op_allocN rfl nrmT rfl) ?_; intro i18)
  refine JL_s0 (op_storeN (Ev.rfl' rfl) (Ev.rfl' rfl) cellsT replT nrmT (by rfl) (by rfl) (by rfl)) ?_
  refine JL_1 rfl (op_assign rfl) ?_
  refine JL_nil ?_
  refine JQ_then (JC_seq ?_)
  refine JC_dr rfl (by kernel_rfl) ?_
  refine JD_stretch 10 (by kernel_rfl) ?_
  refine JW_1 (by first | exact op_loadRefsN (n := 9) (Ev.rfl' rfl) rfl rfl rfl (by rfl) nrmT | exact op_loadPtrsN (n := 9) (Ev.rfl' rfl) memT (by rfl) (by rfl) (by rfl) (by rfl) nrmT) ?_
  refine JW_1 (by first | exact op_loadRefsN (n := 2) (Ev.rfl' rfl) rfl rfl rfl (by rfl) nrmT | exact op_loadPtrsN (n := 2) (Ev.rfl' rfl) memT (by rfl) (by rfl) (by rfl) (by rfl) nrmT) ?_
  refine JW_1 (op_call Try.call20 (headerC_ok _) ⟨evS, trivial⟩) ?_
  refine JW_1 (op_call Try.call23 (WriteHeaderR_ok _ _) ⟨evS, ⟨evS, trivial⟩⟩) ?_
  refine JW_1 (op_move rfl) ?_
  refine JW_1 (op_extract (Ev.rfl' rfl) rfl) ?_
  refine JW_1 (op_extract (Ev.rfl' rfl) rfl) ?_
  refine JW_n (op_allocN rfl nrmT rfl) ?_
  refine JW_write rfl rfl rfl (by kernel_rfl) (op_storeWN evS cellsT rfl rfl rfl nrmT) ?_
  refine JW_1 (op_assign rfl) ?_
  refine ⟨rfl, ?_⟩
  intro i19
  refine JD_end ?_
  refine JQ_then (JC_seq ?_)
  refine JC_region ?_
  refine JL_1 rfl (by first | exact op_loadRefsN (n := 9) (Ev.rfl' rfl) rfl rfl rfl (by rfl) nrmT | exact op_loadPtrsN (n := 9) (Ev.rfl' rfl) memT (by rfl) (by rfl) (by rfl) (by rfl) nrmT) ?_
  refine JL_1 rfl (by first | exact op_loadRefsN (n := 16) (Ev.rfl' rfl) rfl rfl rfl (by rfl) nrmT | exact op_loadPtrsN (n := 16) (Ev.rfl' rfl) memT (by rfl) (by rfl) (by rfl) (by rfl) nrmT) ?_
  refine JL_1 rfl (op_call Try.call24 (WriteNode_ok _ _) ⟨evS, ⟨evS, trivial⟩⟩) ?_
  refine JL_1 rfl (op_move rfl) ?_
  refine JL_1 rfl (op_extract (Ev.rfl' rfl) rfl) ?_
  refine JL_1 rfl (op_extract (Ev.rfl' rfl) rfl) ?_
  (refine JL_n rfl (op_allocN rfl nrmT rfl) ?_; intro i20)
  refine JL_s0 (op_storeN (Ev.rfl' rfl) (Ev.rfl' rfl) cellsT replT nrmT (by rfl) (by rfl) (by rfl)) ?_
  refine JL_1 rfl (op_assign rfl) ?_
  refine JL_nil ?_
  refine JQ_then (JC_seq ?_)
  refine JC_dr rfl (by kernel_rfl) ?_
  refine JD_stretch 10 (by kernel_rfl) ?_
  refine JW_1 (by first | exact op_loadRefsN (n := 9) (Ev.rfl' rfl) rfl rfl rfl (by rfl) nrmT | exact op_loadPtrsN (n := 9) (Ev.rfl' rfl) memT (by rfl) (by rfl) (by rfl) (by rfl) nrmT) ?_
  refine JW_1 (by first | exact op_loadRefsN (n := 16) (Ev.rfl' rfl) rfl rfl rfl (by rfl) nrmT | exact op_loadPtrsN (n := 16) (Ev.rfl' rfl) memT (by rfl) (by rfl) (by rfl) (by rfl) nrmT) ?_
  refine JW_1 (op_call Try.call21 (nodeC_ok _) ⟨evS, trivial⟩) ?_
  refine JW_1 (op_call Try.call25 (WriteNodeR_ok _ _) ⟨evS, ⟨evS, trivial⟩⟩) ?_
  refine JW_1 (op_move rfl) ?_
  refine JW_1 (op_extract (Ev.rfl' rfl) rfl) ?_
  refine JW_1 (op_extract (Ev.rfl' rfl) rfl) ?_
  refine JW_n (op_allocN rfl nrmT rfl) ?_
  refine JW_write rfl rfl rfl (by kernel_rfl) (op_storeWN evS cellsT rfl rfl rfl nrmT) ?_
  refine JW_1 (op_assign rfl) ?_
  refine ⟨rfl, ?_⟩
  intro i21
  refine JD_end ?_
  refine JQ_then (JC_seq ?_)
  refine JC_region ?_
  refine JL_1 rfl (op_move rfl) ?_
  refine JL_1 rfl (op_move rfl) ?_
  refine JL_1 rfl (op_eql (Ev.rfl' rfl) (Ev.rfl' rfl)) ?_
  refine JL_1 rfl (op_move rfl) ?_
  (first | refine JL_i0 rfl rfl rfl (fun hg => (by have hg0 := hg; (try simp at hg); first | exact op_moveE (Ev.sub rfl (SubL.iteT (by first | assumption | (simp; done) | (simp; omega) | (simp_all; done)) SubL.rfl')) | exact op_moveE (Ev.rfl' rfl))) ?_ | refine JL_i rfl rfl rfl (fun hp hg => (by have hpg := Bool.and_eq_true_iff.2 ⟨hp, hg⟩; have hg0 := hg; (try simp at hg); first | exact op_moveE (Ev.sub rfl (SubL.iteT (by first | assumption | (simp; done) | (simp; omega) | (simp_all; done)) SubL.rfl')) | exact op_moveE (Ev.rfl' rfl))) ?_)
  (first | refine JL_i0 rfl rfl rfl (fun hg => (by have hg0 := hg; (try simp at hg); first | exact op_moveE (Ev.sub rfl (SubL.iteT (by first | assumption | (simp; done) | (simp; omega) | (simp_all; done)) SubL.rfl')) | exact op_moveE (Ev.rfl' rfl))) ?_ | refine JL_i rfl rfl rfl (fun hp hg => (by have hpg := Bool.and_eq_true_iff.2 ⟨hp, hg⟩; have hg0 := hg; (try simp at hg); first | exact op_moveE (Ev.sub rfl (SubL.iteT (by first | assumption | (simp; done) | (simp; omega) | (simp_all; done)) SubL.rfl')) | exact op_moveE (Ev.rfl' rfl))) ?_)
  (first | refine JL_i0 rfl rfl rfl (fun hg => (by have hg0 := hg; (try simp at hg); exact op_eql evG evG)) ?_ | refine JL_i rfl rfl rfl (fun hp hg => (by have hpg := Bool.and_eq_true_iff.2 ⟨hp, hg⟩; have hg0 := hg; (try simp at hg); exact op_eql evG evG)) ?_)
  refine JL_1 rfl (op_and (Ev.rfl' rfl) rfl (fun h => by first | exact SubL.rfl' | exact SubL.iteT (by first | (rw [h]; rfl) | (simp_all; done)) SubL.rfl')) ?_
  refine JL_1 rfl (op_move rfl) ?_
  (first | refine JL_i0 rfl rfl rfl (fun hg => (by have hg0 := hg; (try simp at hg); first | exact op_loadRefsN (n := 9) evG rfl rfl rfl (by rfl) nrmT | exact op_loadPtrsN (n := 9) evG memT (by rfl) (by rfl) (by rfl) (by rfl) nrmT)) ?_ | refine JL_i rfl rfl rfl (fun hp hg => (by have hpg := Bool.and_eq_true_iff.2 ⟨hp, hg⟩; have hg0 := hg; (try simp at hg); first | exact op_loadRefsN (n := 9) evG rfl rfl rfl (by rfl) nrmT | exact op_loadPtrsN (n := 9) evG memT (by rfl) (by rfl) (by rfl) (by rfl) nrmT)) ?_)
  (first | refine JL_i0 rfl rfl rfl (fun hg => (by have hg0 := hg; (try simp at hg); first | exact op_loadRefsN (n := 9) evG rfl rfl rfl (by rfl) nrmT | exact op_loadPtrsN (n := 9) evG memT (by rfl) (by rfl) (by rfl) (by rfl) nrmT)) ?_ | refine JL_i rfl rfl rfl (fun hp hg => (by have hpg := Bool.and_eq_true_iff.2 ⟨hp, hg⟩; have hg0 := hg; (try simp at hg); first | exact op_loadRefsN (n := 9) evG rfl rfl rfl (by rfl) nrmT | exact op_loadPtrsN (n := 9) evG memT (by rfl) (by rfl) (by rfl) (by rfl) nrmT)) ?_)
  (first | refine JL_i0 rfl rfl rfl (fun hg => (by have hg0 := hg; (try simp at hg); exact op_call Try.call26 (same_refl _) ⟨evS, ⟨evS, trivial⟩⟩)) ?_ | refine JL_i rfl rfl rfl (fun hp hg => (by have hpg := Bool.and_eq_true_iff.2 ⟨hp, hg⟩; have hg0 := hg; (try simp at hg); exact op_call Try.call26 (same_refl _) ⟨evS, ⟨evS, trivial⟩⟩)) ?_)
  refine JL_1 rfl (op_and (Ev.rfl' rfl) rfl (fun h => by first | exact SubL.rfl' | exact SubL.iteT (by first | (rw [h]; rfl) | (simp_all; done)) SubL.rfl')) ?_
  refine JL_1 rfl (op_move rfl) ?_
  (first | refine JL_i0 rfl rfl rfl (fun hg => (by have hg0 := hg; (try simp at hg); first | exact op_loadRefsN (n := 9) evG rfl rfl rfl (by rfl) nrmT | exact op_loadPtrsN (n := 9) evG memT (by rfl) (by rfl) (by rfl) (by rfl) nrmT)) ?_ | refine JL_i rfl rfl rfl (fun hp hg => (by have hpg := Bool.and_eq_true_iff.2 ⟨hp, hg⟩; have hg0 := hg; (try simp at hg); first | exact op_loadRefsN (n := 9) evG rfl rfl rfl (by rfl) nrmT | exact op_loadPtrsN (n := 9) evG memT (by rfl) (by rfl) (by rfl) (by rfl) nrmT)) ?_)
  (first | refine JL_i0 rfl rfl rfl (fun hg => (by have hg0 := hg; (try simp at hg); first | exact op_loadRefsN (n := 9) evG rfl rfl rfl (by rfl) nrmT | exact op_loadPtrsN (n := 9) evG memT (by rfl) (by rfl) (by rfl) (by rfl) nrmT)) ?_ | refine JL_i rfl rfl rfl (fun hp hg => (by have hpg := Bool.and_eq_true_iff.2 ⟨hp, hg⟩; have hg0 := hg; (try simp at hg); first | exact op_loadRefsN (n := 9) evG rfl rfl rfl (by rfl) nrmT | exact op_loadPtrsN (n := 9) evG memT (by rfl) (by rfl) (by rfl) (by rfl) nrmT)) ?_)
  (first | refine JL_i0 rfl rfl rfl (fun hg => (by have hg0 := hg; (try simp at hg); exact op_call Try.call26 (same_refl _) ⟨evS, ⟨evS, trivial⟩⟩)) ?_ | refine JL_i rfl rfl rfl (fun hp hg => (by have hpg := Bool.and_eq_true_iff.2 ⟨hp, hg⟩; have hg0 := hg; (try simp at hg); exact op_call Try.call26 (same_refl _) ⟨evS, ⟨evS, trivial⟩⟩)) ?_)
  refine JL_1 rfl (op_and (Ev.rfl' rfl) rfl (fun h => by first | exact SubL.rfl' | exact SubL.iteT (by first | (rw [h]; rfl) | (simp_all; done)) SubL.rfl')) ?_
  refine JL_1 rfl (op_assign rfl) ?_
  refine JL_nil ?_
  refine JQ_then (JC_ret ?_)
  refine JQ_ret1 Try.results3 rfl () (SubL.eq ?_) (List.nil_sublist _)
  simp
end Go.Proofs.Ytpfojangcgffkaa

/- Contracts: tags; pages with tags. Own work. -/
namespace Go.Proofs.Ytpfojangcgffkaa
open Go.RowKit
set_option linter.unusedVariables false
set_option linter.unusedSimpArgs false
set_option maxRecDepth 100000
structure Tg where
  kind : Int
  gen : Int
  aux : BitVec 32
@[reducible] def tTg : Ty Tg := ⟨3, fun t => [Is (.int .i64 t.kind), Is (.int .i64 t.gen), Is (.int .u32 (UV t.aux))], fun _ => rfl⟩
@[reducible] def IsTg (t : Tg) : VP := IsAgg (tTg.cells t)
def kindV (x : BitVec 64) : Int := UV (x &&& BitVec.ofInt 64 255)
def genV (x : BitVec 64) : Int := UV (x >>> 8 &&& BitVec.ofInt 64 16777215)
def auxV (x : BitVec 64) : BitVec 32 := (x >>> 32).setWidth 32
theorem kind_eq (x : BitVec 64) : kindV x = UV x % 256 := by
  unfold kindV; rw [UV_low 64 8 x _ rfl]; rfl
theorem gen_eq (x : BitVec 64) : genV x = UV x / 256 % 16777216 := by
  unfold genV; rw [UV_low 64 24 _ _ rfl, UV_shr]; rfl
theorem kind_in (x : BitVec 64) : -9223372036854775808 ≤ UV (x &&& BitVec.ofInt 64 255) ∧ UV (x &&& BitVec.ofInt 64 255) ≤ 9223372036854775807 := by
  have := kind_eq x
  unfold kindV at this
  omega
theorem gen_in (x : BitVec 64) : -9223372036854775808 ≤ UV (x >>> 8 &&& BitVec.ofInt 64 16777215) ∧ UV (x >>> 8 &&& BitVec.ofInt 64 16777215) ≤ 9223372036854775807 := by
  have := gen_eq x
  unfold genV at this
  omega
def unpackT (x : BitVec 64) : Tg := ⟨kindV x, genV x, auxV x⟩
-- pointer.UnpackTag: function 87
theorem UnpackTag_ok (x : BitVec 64) : FnP Try.prog 87 [Is (.int .u64 (UV x))] (IsTg (unpackT x)) := by
  have h1 := kind_in x
  have h2 := gen_in x
  refine FnP.enter Try.func87 Try.ntmps87 rfl rfl ?_
  intro c hX
  refine JC_seq ?_
  refine JC_region ?_
  (refine JL_n rfl (op_allocN rfl nrmT rfl) ?_; intro i2)
  refine JL_nil ?_
  refine JQ_then (JC_seq ?_)
  refine JC_region ?_
  refine JL_1 rfl (op_move rfl) ?_
  refine JL_1 rfl (by first | exact op_bits ev64 ev64 (by simp) (and_u64 _ _) | exact op_bits (Ev.rfl' rfl) (Ev.rfl' rfl) (by simp) rfl) ?_
  refine JL_1 rfl (op_conv (Ev.rfl' rfl) rfl rfl convT) ?_
  refine JL_1 rfl (op_move rfl) ?_
  refine JL_1 rfl (by first | exact op_shrU (k := 8) ev64 (Ev.rfl' rfl) (by first | omega | exact UV_nonneg _) idxT | exact op_shr (Ev.rfl' rfl) (Ev.rfl' rfl) (by first | omega | exact UV_nonneg _) rfl) ?_
  refine JL_1 rfl (by first | exact op_bits ev64 ev64 (by simp) (and_u64 _ _) | exact op_bits (Ev.rfl' rfl) (Ev.rfl' rfl) (by simp) rfl) ?_
  refine JL_1 rfl (op_conv (Ev.rfl' rfl) rfl rfl convT) ?_
  refine JL_1 rfl (op_move rfl) ?_
  refine JL_1 rfl (by first | exact op_shrU (k := 32) ev64 (Ev.rfl' rfl) (by first | omega | exact UV_nonneg _) idxT | exact op_shr (Ev.rfl' rfl) (Ev.rfl' rfl) (by first | omega | exact UV_nonneg _) rfl) ?_
  refine JL_1 rfl (op_conv (Ev.rfl' rfl) rfl rfl convT) ?_
  refine JL_1 rfl (op_buildN (qs := [(0, _), (1, _), (2, _)]) rfl rfl rfl rfl ⟨⟨rfl, _, (Ev.rfl' rfl), cellsT⟩, ⟨⟨rfl, _, (Ev.rfl' rfl), cellsT⟩, ⟨⟨rfl, _, (Ev.rfl' rfl), cellsT⟩, trivial⟩⟩⟩ (by rfl) nrmT) ?_
  refine JL_s0 (op_storeN (Ev.rfl' rfl) (Ev.rfl' rfl) cellsT replT nrmT (by rfl) (by rfl) (by rfl)) ?_
  refine JL_nil ?_
  refine JQ_then (JC_ret ?_)
  exact JQ_ret (Bs := [IsTg (unpackT x)]) Try.results87 ⟨⟨_, _, _, _, rfl, memT, rfl, .inr ⟨rfl, _, rfl, rfl, subT⟩⟩, trivial⟩ () SubL.rfl' (List.nil_sublist _)
def packT (t : Tg) : BitVec 64 := (BitVec.ofInt 64 t.kind &&& BitVec.ofInt 64 255) ||| ((BitVec.ofInt 64 t.gen &&& BitVec.ofInt 64 16777215) <<< 8) ||| (t.aux.setWidth 64 <<< 32)
-- pointer.PackTag: function 117
theorem PackTag_ok (t : Tg) : FnP Try.prog 117 [IsTg t] (Is (.int .u64 (UV (packT t)))) := by
  refine FnP.enter Try.func117 Try.ntmps117 rfl rfl ?_
  intro c hX
  refine JC_seq ?_
  refine JC_region ?_
  (refine JL_n rfl (op_box (Ev.rfl' rfl) cellsT) ?_; intro i1)
  refine JL_1 rfl (op_assign rfl) ?_
  refine JL_nil ?_
  refine JQ_then (JC_seq ?_)
  refine JC_region ?_
  refine JL_1 rfl (by first | exact op_fieldPtr (k := 0) (Ev.rfl' rfl) rfl rfl rfl rfl | exact op_fieldRefN (k := 0) (Ev.rfl' rfl) rfl rfl rfl rfl nrmT) ?_
  refine JL_1 rfl (by first | exact op_loadRef (Ev.rfl' rfl) rfl rfl rfl | exact op_loadPtr (Ev.rfl' rfl) memT (by rfl) (by rfl) (by rfl)) ?_
  refine JL_1 rfl (op_conv (Ev.rfl' rfl) rfl rfl convT) ?_
  refine JL_1 rfl (by first | exact op_bits ev64 ev64 (by simp) (and_u64 _ _) | exact op_bits (Ev.rfl' rfl) (Ev.rfl' rfl) (by simp) rfl) ?_
  refine JL_1 rfl (op_assign rfl) ?_
  refine JL_nil ?_
  refine JQ_then (JC_seq ?_)
  refine JC_region ?_
  refine JL_1 rfl (by first | exact op_fieldPtr (k := 1) (Ev.rfl' rfl) rfl rfl rfl rfl | exact op_fieldRefN (k := 1) (Ev.rfl' rfl) rfl rfl rfl rfl nrmT) ?_
  refine JL_1 rfl (by first | exact op_loadRef (Ev.rfl' rfl) rfl rfl rfl | exact op_loadPtr (Ev.rfl' rfl) memT (by rfl) (by rfl) (by rfl)) ?_
  refine JL_1 rfl (op_conv (Ev.rfl' rfl) rfl rfl convT) ?_
  refine JL_1 rfl (by first | exact op_bits ev64 ev64 (by simp) (and_u64 _ _) | exact op_bits (Ev.rfl' rfl) (Ev.rfl' rfl) (by simp) rfl) ?_
  refine JL_1 rfl (op_assign rfl) ?_
  refine JL_nil ?_
  refine JQ_then (JC_seq ?_)
  refine JC_region ?_
  refine JL_1 rfl (op_move rfl) ?_
  refine JL_1 rfl (op_move rfl) ?_
  refine JL_1 rfl (by first | exact op_shlU (k := 8) ev64 (Ev.rfl' rfl) (by first | omega | exact UV_nonneg _) idxT | exact op_shl (Ev.rfl' rfl) (Ev.rfl' rfl) (by first | omega | exact UV_nonneg _) rfl) ?_
  refine JL_1 rfl (by first | exact op_bits ev64 ev64 (by simp) (or_u64 _ _) | exact op_bits (Ev.rfl' rfl) (Ev.rfl' rfl) (by simp) rfl) ?_
  refine JL_1 rfl (by first | exact op_fieldPtr (k := 2) (Ev.rfl' rfl) rfl rfl rfl rfl | exact op_fieldRefN (k := 2) (Ev.rfl' rfl) rfl rfl rfl rfl nrmT) ?_
  refine JL_1 rfl (by first | exact op_loadRef (Ev.rfl' rfl) rfl rfl rfl | exact op_loadPtr (Ev.rfl' rfl) memT (by rfl) (by rfl) (by rfl)) ?_
  refine JL_1 rfl (op_conv (Ev.rfl' rfl) rfl rfl convT) ?_
  refine JL_1 rfl (by first | exact op_shlU (k := 32) ev64 (Ev.rfl' rfl) (by first | omega | exact UV_nonneg _) idxT | exact op_shl (Ev.rfl' rfl) (Ev.rfl' rfl) (by first | omega | exact UV_nonneg _) rfl) ?_
  refine JL_1 rfl (by first | exact op_bits ev64 ev64 (by simp) (or_u64 _ _) | exact op_bits (Ev.rfl' rfl) (Ev.rfl' rfl) (by simp) rfl) ?_
  refine JL_1 rfl (op_assign rfl) ?_
  refine JL_nil ?_
  refine JQ_then (JC_ret ?_)
  refine JQ_ret1 Try.results117 rfl () (SubL.eq ?_) (List.nil_sublist _)
  rfl
-- pointer.tagOf: function 89
theorem tagOf_ok (p : Pg) : FnP Try.prog 89 [IsPg p] (IsTg (unpackT p.d0)) := by
  have hd0 : (dat p)[0]? = some p.d0 := rfl
  refine FnP.enter Try.func89 Try.ntmps89 rfl rfl ?_
  intro c hX
  refine JC_seq ?_
  refine JC_region ?_
  (refine JL_n rfl (op_box (Ev.rfl' rfl) cellsT) ?_; intro i1)
  (refine JL_n rfl (op_allocN rfl nrmT rfl) ?_; intro i2)
  refine JL_nil ?_
  refine JQ_then (JC_seq ?_)
  refine JC_region ?_
  refine JL_1 rfl (by first | exact op_fieldPtr (k := 2) (Ev.rfl' rfl) rfl rfl rfl rfl | exact op_fieldRefN (k := 2) (Ev.rfl' rfl) rfl rfl rfl rfl nrmT) ?_
  refine JL_1 rfl (op_indexArr (k := 0) (sz := 1) (Ev.rfl' rfl) (Ev.rfl' rfl) rfl rfl idxT (by first | decide | omega)) ?_
  refine JL_1 rfl (by first | exact op_loadRef (Ev.rfl' rfl) rfl rfl rfl | exact op_loadPtr (Ev.rfl' rfl) memT (by rfl) (by rfl) (by rfl)) ?_
  refine JL_1 rfl (op_call Try.call87 (UnpackTag_ok _) ⟨evS, trivial⟩) ?_
  refine JL_s0 (op_storeN (Ev.rfl' rfl) (Ev.rfl' rfl) cellsT replT nrmT (by rfl) (by rfl) (by rfl)) ?_
  refine JL_nil ?_
  refine JQ_then (JC_ret ?_)
  exact JQ_ret (Bs := [IsTg (unpackT p.d0)]) Try.results89 ⟨⟨_, _, _, _, rfl, memT, rfl, .inr ⟨rfl, _, rfl, rfl, subT⟩⟩, trivial⟩ () SubL.rfl' (List.nil_sublist _)
-- pointer.At: function 43
theorem At_ok (p : Pg) : FnP Try.prog 43 [IsPg p] (IsPt ⟨p.l, genV p.d0⟩) := by
  refine FnP.enter Try.func43 Try.ntmps43 rfl rfl ?_
  intro c hX
  refine JC_seq ?_
  refine JC_region ?_
  (refine JL_n rfl (op_box (Ev.rfl' rfl) cellsT) ?_; intro i1)
  (refine JL_n rfl (op_allocN rfl nrmT rfl) ?_; intro i2)
  refine JL_nil ?_
  refine JQ_then (JC_seq ?_)
  refine JC_dr rfl (by kernel_rfl) ?_
  refine JD_stretch 6 (by kernel_rfl) ?_
  refine JW_1 (by first | exact op_fieldPtr (k := 0) (Ev.rfl' rfl) rfl rfl rfl rfl | exact op_fieldRefN (k := 0) (Ev.rfl' rfl) rfl rfl rfl rfl nrmT) ?_
  refine JW_1 (by first | exact op_loadRef (Ev.rfl' rfl) rfl rfl rfl | exact op_loadPtr (Ev.rfl' rfl) memT (by rfl) (by rfl) (by rfl)) ?_
  refine JW_1 (by first | exact op_loadRefsN (n := 9) (Ev.rfl' rfl) rfl rfl rfl (by rfl) nrmT | exact op_loadPtrsN (n := 9) (Ev.rfl' rfl) memT (by rfl) (by rfl) (by rfl) (by rfl) nrmT) ?_
  refine JW_1 (op_call Try.call89 (tagOf_ok p) ⟨evS, trivial⟩) ?_
  refine JW_1 (op_fieldV1 (Ev.rfl' rfl) rfl rfl rfl rfl rfl) ?_
  refine JW_1 (op_buildN (qs := [(0, _), (1, _)]) rfl rfl rfl rfl ⟨⟨rfl, _, (Ev.rfl' rfl), cellsT⟩, ⟨⟨rfl, _, (Ev.rfl' rfl), cellsT⟩, trivial⟩⟩ (by rfl) nrmT) ?_
  refine ⟨rfl, ?_⟩
  refine JD_s0 (by kernel_rfl) rfl (op_storeN (Ev.rfl' rfl) (Ev.rfl' rfl) cellsT replT nrmT (by rfl) (by rfl) (by rfl)) ?_
  refine JD_end ?_
  refine JQ_then (JC_ret ?_)
  exact JQ_ret (Bs := [IsPt ⟨p.l, genV p.d0⟩]) Try.results43 ⟨⟨_, _, _, _, rfl, memT, rfl, .inr ⟨rfl, _, rfl, rfl, subT⟩⟩, trivial⟩ () SubL.rfl' (List.nil_sublist _)
def tagP (p : Pg) (g : Tg) : Pg := ⟨p.l, p.h, packT g, 0#64, 0#64, 0#64, 0#64, 0#64, 0#64⟩
-- pointer.tagged: function 91
theorem tagged_ok (p : Pg) (g : Tg) : FnP Try.prog 91 [IsPg p, IsTg g] (IsPg (tagP p g)) := by
  refine FnP.enter Try.func91 Try.ntmps91 rfl rfl ?_
  intro c hX
  refine JC_seq ?_
  refine JC_region ?_
  (refine JL_n rfl (op_box (Ev.rfl' rfl) cellsT) ?_; intro i2)
  (refine JL_n rfl (op_box (Ev.rfl' rfl) cellsT) ?_; intro i3)
  (refine JL_n rfl (op_allocN rfl nrmT rfl) ?_; intro i4)
  refine JL_nil ?_
  refine JQ_then (JC_seq ?_)
  refine JC_region ?_
  refine JL_1 rfl (by first | exact op_fieldPtr (k := 0) (Ev.rfl' rfl) rfl rfl rfl rfl | exact op_fieldRefN (k := 0) (Ev.rfl' rfl) rfl rfl rfl rfl nrmT) ?_
  refine JL_1 rfl (by first | exact op_loadRef (Ev.rfl' rfl) rfl rfl rfl | exact op_loadPtr (Ev.rfl' rfl) memT (by rfl) (by rfl) (by rfl)) ?_
  refine JL_1 rfl (by first | exact op_fieldPtr (k := 1) (Ev.rfl' rfl) rfl rfl rfl rfl | exact op_fieldRefN (k := 1) (Ev.rfl' rfl) rfl rfl rfl rfl nrmT) ?_
  refine JL_1 rfl (by first | exact op_loadRef (Ev.rfl' rfl) rfl rfl rfl | exact op_loadPtr (Ev.rfl' rfl) memT (by rfl) (by rfl) (by rfl)) ?_
  refine JL_1 rfl (op_buildN (qs := [(0, _), (1, _)]) rfl rfl rfl rfl ⟨⟨rfl, _, (Ev.rfl' rfl), cellsT⟩, ⟨⟨rfl, _, (Ev.rfl' rfl), cellsT⟩, trivial⟩⟩ (by rfl) nrmT) ?_
  (refine JL_n rfl (op_allocN rfl nrmT rfl) ?_; intro i5)
  refine JL_s0 (op_storeN (Ev.rfl' rfl) (Ev.rfl' rfl) cellsT replT nrmT (by rfl) (by rfl) (by rfl)) ?_
  refine JL_nil ?_
  refine JQ_then (JC_seq ?_)
  refine JC_region ?_
  refine JL_1 rfl (by first | exact op_loadRefsN (n := 3) (Ev.rfl' rfl) rfl rfl rfl (by rfl) nrmT | exact op_loadPtrsN (n := 3) (Ev.rfl' rfl) memT (by rfl) (by rfl) (by rfl) (by rfl) nrmT) ?_
  refine JL_1 rfl (op_call Try.call117 (PackTag_ok g) ⟨evS, trivial⟩) ?_
  refine JL_1 rfl (by first | exact op_fieldPtr (k := 2) (Ev.rfl' rfl) rfl rfl rfl rfl | exact op_fieldRefN (k := 2) (Ev.rfl' rfl) rfl rfl rfl rfl nrmT) ?_
  refine JL_1 rfl (op_indexArr (k := 0) (sz := 1) (Ev.rfl' rfl) (Ev.rfl' rfl) rfl rfl idxT (by first | decide | omega)) ?_
  refine JL_s0 (op_storeN (Ev.rfl' rfl) (Ev.rfl' rfl) cellsT replT nrmT (by rfl) (by rfl) (by rfl)) ?_
  refine JL_nil ?_
  refine JQ_then (JC_seq ?_)
  refine JC_region ?_
  refine JL_1 rfl (by first | exact op_loadRefsN (n := 9) (Ev.rfl' rfl) rfl rfl rfl (by rfl) nrmT | exact op_loadPtrsN (n := 9) (Ev.rfl' rfl) memT (by rfl) (by rfl) (by rfl) (by rfl) nrmT) ?_
  refine JL_s0 (op_storeN (Ev.rfl' rfl) (Ev.rfl' rfl) cellsT replT nrmT (by rfl) (by rfl) (by rfl)) ?_
  refine JL_nil ?_
  refine JQ_then (JC_ret ?_)
  exact JQ_ret (Bs := [IsPg (tagP p g)]) Try.results91 ⟨⟨_, _, _, _, rfl, memT, rfl, .inr ⟨rfl, _, rfl, rfl, subT⟩⟩, trivial⟩ () SubL.rfl' (List.nil_sublist _)
def relP (p : Pg) : Pg × Int :=
  if heapB p.l = true then (if lockB p = true then (Pg.nil, 3) else if kindV p.d0 = 0 then (Pg.nil, 16) else (tagP p ⟨0, genV p.d0, 0#32⟩, 0)) else (Pg.nil, 1)
-- pointer.Release: function 94
theorem Release_ok (p : Pg) : FnP Try.prog 94 [IsPg p] (IsTup [IsPg (relP p).1, Is (.int .i64 (relP p).2)]) := by
  refine FnP.enter Try.func94 Try.ntmps94 rfl rfl ?_
  intro c hX
  refine JC_seq ?_
  refine JC_region ?_
  (refine JL_n rfl (op_box (Ev.rfl' rfl) cellsT) ?_; intro i1)
  (refine JL_n rfl (op_allocN rfl nrmT rfl) ?_; intro i2)
  refine JL_1 rfl (op_assign rfl) ?_
  refine JL_nil ?_
  refine JQ_then (JC_seq ?_)
  refine JC_region ?_
  refine JL_1 rfl (by first | exact op_loadRefsN (n := 9) (Ev.rfl' rfl) rfl rfl rfl (by rfl) nrmT | exact op_loadPtrsN (n := 9) (Ev.rfl' rfl) memT (by rfl) (by rfl) (by rfl) (by rfl) nrmT) ?_
  refine JL_1 rfl (op_call Try.call89 (tagOf_ok p) ⟨evS, trivial⟩) ?_
  (refine JL_n rfl (op_allocN rfl nrmT rfl) ?_; intro i4)
  refine JL_s0 (op_storeN (Ev.rfl' rfl) (Ev.rfl' rfl) cellsT replT nrmT (by rfl) (by rfl) (by rfl)) ?_
  refine JL_nil ?_
  refine JQ_then (JC_seq (JC_block (JC_seq ?_)))
  refine JC_region ?_
  refine JL_1 rfl (by first | exact op_fieldPtr (k := 0) (Ev.rfl' rfl) rfl rfl rfl rfl | exact op_fieldRefN (k := 0) (Ev.rfl' rfl) rfl rfl rfl rfl nrmT) ?_
  refine JL_1 rfl (by first | exact op_loadRef (Ev.rfl' rfl) rfl rfl rfl | exact op_loadPtr (Ev.rfl' rfl) memT (by rfl) (by rfl) (by rfl)) ?_
  refine JL_1 rfl (op_call Try.call90 (inHeap_ok _) ⟨evS, trivial⟩) ?_
  refine JL_1 rfl (op_not (Ev.rfl' rfl)) ?_
  refine JL_1 rfl (op_assign rfl) ?_
  refine JL_nil ?_
  refine JQ_then ?_
  refine JC_cond (Ev.rfl' rfl) (fun h2 => ?_) (fun h2 => ?_)
  · have e : relP p = (Pg.nil, 1) := by unfold relP; rw [if_neg (by simpa using h2)]
    rw [e]
    refine JC_seq ?_
    refine JC_region ?_
    refine JL_1 rfl (op_buildN (qs := []) rfl rfl rfl rfl trivial (by rfl) nrmT) ?_
    refine JL_s0 (op_storeN (Ev.rfl' rfl) (Ev.rfl' rfl) cellsT replT nrmT (by rfl) (by rfl) (by rfl)) ?_
    refine JL_1 rfl (op_assign rfl) ?_
    refine JL_nil ?_
    refine JQ_then (JC_ret (JQ_block_ret (JQ_then_ret ?_)))
    exact JQ_ret (Bs := [IsPg Pg.nil, Is (.int .i64 1)]) Try.results94 ⟨⟨_, _, _, _, rfl, memT, rfl, .inr ⟨rfl, _, rfl, rfl, subT⟩⟩, ⟨⟨_, rfl, subT⟩, trivial⟩⟩ () SubL.rfl' (List.nil_sublist _)
  have g1 : heapB p.l = true := by simpa using h2
  refine JC_seq ?_
  refine JC_region ?_
  refine JL_1 rfl (by first | exact op_loadRefsN (n := 9) (Ev.rfl' rfl) rfl rfl rfl (by rfl) nrmT | exact op_loadPtrsN (n := 9) (Ev.rfl' rfl) memT (by rfl) (by rfl) (by rfl) (by rfl) nrmT) ?_
  refine JL_1 rfl (op_call Try.call88 (Locked_ok _) ⟨evS, trivial⟩) ?_
  refine JL_1 rfl (op_assign rfl) ?_
  refine JL_nil ?_
  refine JQ_then ?_
  refine JC_cond (Ev.rfl' rfl) (fun h4 => ?_) (fun h4 => ?_)
  · have e : relP p = (Pg.nil, 3) := by unfold relP; rw [if_pos g1, if_pos (show lockB p = true from h4)]
    rw [e]
    refine JC_seq ?_
    refine JC_region ?_
    refine JL_1 rfl (op_buildN (qs := []) rfl rfl rfl rfl trivial (by rfl) nrmT) ?_
    refine JL_s0 (op_storeN (Ev.rfl' rfl) (Ev.rfl' rfl) cellsT replT nrmT (by rfl) (by rfl) (by rfl)) ?_
    refine JL_1 rfl (op_assign rfl) ?_
    refine JL_nil ?_
    refine JQ_then (JC_ret (JQ_block_ret (JQ_then_ret ?_)))
    exact JQ_ret (Bs := [IsPg Pg.nil, Is (.int .i64 3)]) Try.results94 ⟨⟨_, _, _, _, rfl, memT, rfl, .inr ⟨rfl, _, rfl, rfl, subT⟩⟩, ⟨⟨_, rfl, subT⟩, trivial⟩⟩ () SubL.rfl' (List.nil_sublist _)
  have g2 : ¬ lockB p = true := fun e => Bool.noConfusion (show false = true from h4.symm.trans e)
  refine JC_seq ?_
  refine JC_region ?_
  refine JL_1 rfl (by first | exact op_fieldPtr (k := 0) (Ev.rfl' rfl) rfl rfl rfl rfl | exact op_fieldRefN (k := 0) (Ev.rfl' rfl) rfl rfl rfl rfl nrmT) ?_
  refine JL_1 rfl (by first | exact op_loadRef (Ev.rfl' rfl) rfl rfl rfl | exact op_loadPtr (Ev.rfl' rfl) memT (by rfl) (by rfl) (by rfl)) ?_
  refine JL_1 rfl (op_eql (Ev.rfl' rfl) (Ev.rfl' rfl)) ?_
  refine JL_1 rfl (op_assign rfl) ?_
  refine JL_nil ?_
  refine JQ_then ?_
  refine JC_cond (Ev.rfl' rfl) (fun h6 => ?_) (fun h6 => ?_)
  · have g3 : kindV p.d0 = 0 := by simpa [unpackT] using h6
    have e : relP p = (Pg.nil, 16) := by unfold relP; rw [if_pos g1, if_neg g2, if_pos g3]
    rw [e]
    refine JC_seq ?_
    refine JC_region ?_
    refine JL_1 rfl (op_buildN (qs := []) rfl rfl rfl rfl trivial (by rfl) nrmT) ?_
    refine JL_s0 (op_storeN (Ev.rfl' rfl) (Ev.rfl' rfl) cellsT replT nrmT (by rfl) (by rfl) (by rfl)) ?_
    refine JL_1 rfl (op_assign rfl) ?_
    refine JL_nil ?_
    refine JQ_then (JC_ret (JQ_block_ret (JQ_then_ret ?_)))
    exact JQ_ret (Bs := [IsPg Pg.nil, Is (.int .i64 16)]) Try.results94 ⟨⟨_, _, _, _, rfl, memT, rfl, .inr ⟨rfl, _, rfl, rfl, subT⟩⟩, ⟨⟨_, rfl, subT⟩, trivial⟩⟩ () SubL.rfl' (List.nil_sublist _)
  have g3 : ¬ kindV p.d0 = 0 := by simpa [unpackT] using h6
  have e : relP p = (tagP p ⟨0, genV p.d0, 0#32⟩, 0) := by unfold relP; rw [if_pos g1, if_neg g2, if_neg g3]
  rw [e]
  clear h6
  refine JC_skip (JQ_block (JQ_then (JC_seq ?_)))
  refine JC_region ?_
  refine JL_1 rfl (by first | exact op_loadRefsN (n := 9) (Ev.rfl' rfl) rfl rfl rfl (by rfl) nrmT | exact op_loadPtrsN (n := 9) (Ev.rfl' rfl) memT (by rfl) (by rfl) (by rfl) (by rfl) nrmT) ?_
  refine JL_1 rfl (by first | exact op_fieldPtr (k := 1) (Ev.rfl' rfl) rfl rfl rfl rfl | exact op_fieldRefN (k := 1) (Ev.rfl' rfl) rfl rfl rfl rfl nrmT) ?_
  refine JL_1 rfl (by first | exact op_loadRef (Ev.rfl' rfl) rfl rfl rfl | exact op_loadPtr (Ev.rfl' rfl) memT (by rfl) (by rfl) (by rfl)) ?_
  refine JL_1 rfl (op_buildN (qs := [(0, _), (1, _)]) rfl rfl rfl rfl ⟨⟨rfl, _, (Ev.rfl' rfl), cellsT⟩, ⟨⟨rfl, _, (Ev.rfl' rfl), cellsT⟩, trivial⟩⟩ (by rfl) nrmT) ?_
  refine JL_1 rfl (op_call Try.call91 (tagged_ok p ⟨0, genV p.d0, 0#32⟩) ⟨evS, ⟨evS, trivial⟩⟩) ?_
  refine JL_s0 (op_storeN (Ev.rfl' rfl) (Ev.rfl' rfl) cellsT replT nrmT (by rfl) (by rfl) (by rfl)) ?_
  refine JL_1 rfl (op_assign rfl) ?_
  refine JL_nil ?_
  refine JQ_then (JC_ret ?_)
  exact JQ_ret (Bs := [IsPg (tagP p ⟨0, genV p.d0, 0#32⟩), Is (.int .i64 0)]) Try.results94 ⟨⟨_, _, _, _, rfl, memT, rfl, .inr ⟨rfl, _, rfl, rfl, subT⟩⟩, ⟨⟨_, rfl, subT⟩, trivial⟩⟩ () SubL.rfl' (List.nil_sublist _)
def allP (p : Pg) (kind : Int) (aux : BitVec 32) : Pg × Int :=
  if heapB p.l = true then (if lockB p = true then (Pg.nil, 3) else if kindV p.d0 ≠ 0 then (Pg.nil, 17) else if genV p.d0 = 16777215 then (Pg.nil, 18) else (tagP p ⟨kind, genV p.d0 + 1, aux⟩, 0)) else (Pg.nil, 1)
-- pointer.Allocate: function 41
theorem AllocateP_ok (p : Pg) (kind : Int) (aux : BitVec 32) (hk : 1 ≤ kind ∧ kind ≤ 4) : FnP Try.prog 41 [IsPg p, Is (.int .i64 kind), Is (.int .u32 (UV aux))] (IsTup [IsPg (allP p kind aux).1, Is (.int .i64 (allP p kind aux).2)]) := by
  have hgen := gen_eq p.d0
  have hgr : 0 ≤ genV p.d0 ∧ genV p.d0 ≤ 16777215 := by rw [hgen]; have := UV_nonneg p.d0; omega
  refine FnP.enter Try.func41 Try.ntmps41 rfl rfl ?_
  intro c hX
  refine JC_seq ?_
  refine JC_region ?_
  (refine JL_n rfl (op_box (Ev.rfl' rfl) cellsT) ?_; intro i3)
  (refine JL_n rfl (op_allocN rfl nrmT rfl) ?_; intro i6)
  refine JL_1 rfl (op_assign rfl) ?_
  refine JL_nil ?_
  refine JQ_then (JC_seq ?_)
  refine JC_region ?_
  refine JL_1 rfl (by first | exact op_loadRefsN (n := 9) (Ev.rfl' rfl) rfl rfl rfl (by rfl) nrmT | exact op_loadPtrsN (n := 9) (Ev.rfl' rfl) memT (by rfl) (by rfl) (by rfl) (by rfl) nrmT) ?_
  refine JL_1 rfl (op_call Try.call89 (tagOf_ok p) ⟨evS, trivial⟩) ?_
  (refine JL_n rfl (op_allocN rfl nrmT rfl) ?_; intro i8)
  refine JL_s0 (op_storeN (Ev.rfl' rfl) (Ev.rfl' rfl) cellsT replT nrmT (by rfl) (by rfl) (by rfl)) ?_
  refine JL_nil ?_
  refine JQ_then (JC_seq (JC_block (JC_seq ?_)))
  refine JC_region ?_
  refine JL_1 rfl (by first | exact op_fieldPtr (k := 0) (Ev.rfl' rfl) rfl rfl rfl rfl | exact op_fieldRefN (k := 0) (Ev.rfl' rfl) rfl rfl rfl rfl nrmT) ?_
  refine JL_1 rfl (by first | exact op_loadRef (Ev.rfl' rfl) rfl rfl rfl | exact op_loadPtr (Ev.rfl' rfl) memT (by rfl) (by rfl) (by rfl)) ?_
  refine JL_1 rfl (op_call Try.call90 (inHeap_ok _) ⟨evS, trivial⟩) ?_
  refine JL_1 rfl (op_not (Ev.rfl' rfl)) ?_
  refine JL_1 rfl (op_move rfl) ?_
  (first | refine JL_i0 rfl rfl rfl (fun hg => (by have hg0 := hg; (try simp at hg); first | exact op_moveE (Ev.sub rfl (SubL.iteT (by first | assumption | (simp; done) | (simp; omega) | (simp_all; done)) SubL.rfl')) | exact op_moveE (Ev.rfl' rfl))) ?_ | refine JL_i rfl rfl rfl (fun hp hg => (by have hpg := Bool.and_eq_true_iff.2 ⟨hp, hg⟩; have hg0 := hg; (try simp at hg); first | exact op_moveE (Ev.sub rfl (SubL.iteT (by first | assumption | (simp; done) | (simp; omega) | (simp_all; done)) SubL.rfl')) | exact op_moveE (Ev.rfl' rfl))) ?_)
  (first | refine JL_i0 rfl rfl rfl (fun hg => (by have hg0 := hg; (try simp at hg); exact op_lss evG evG)) ?_ | refine JL_i rfl rfl rfl (fun hp hg => (by have hpg := Bool.and_eq_true_iff.2 ⟨hp, hg⟩; have hg0 := hg; (try simp at hg); exact op_lss evG evG)) ?_)
  refine JL_1 rfl (op_or (Ev.rfl' rfl) rfl (fun h => by first | exact SubL.rfl' | exact SubL.iteT (by first | (rw [h]; rfl) | (simp_all; done)) SubL.rfl')) ?_
  refine JL_1 rfl (op_move rfl) ?_
  (first | refine JL_i0 rfl rfl rfl (fun hg => (by have hg0 := hg; (try simp at hg); first | exact op_moveE (Ev.sub rfl (SubL.iteT (by first | assumption | (simp; done) | (simp; omega) | (simp_all; done)) SubL.rfl')) | exact op_moveE (Ev.rfl' rfl))) ?_ | refine JL_i rfl rfl rfl (fun hp hg => (by have hpg := Bool.and_eq_true_iff.2 ⟨hp, hg⟩; have hg0 := hg; (try simp at hg); first | exact op_moveE (Ev.sub rfl (SubL.iteT (by first | assumption | (simp; done) | (simp; omega) | (simp_all; done)) SubL.rfl')) | exact op_moveE (Ev.rfl' rfl))) ?_)
  (first | refine JL_i0 rfl rfl rfl (fun hg => (by have hg0 := hg; (try simp at hg); exact op_gtr evG evG)) ?_ | refine JL_i rfl rfl rfl (fun hp hg => (by have hpg := Bool.and_eq_true_iff.2 ⟨hp, hg⟩; have hg0 := hg; (try simp at hg); exact op_gtr evG evG)) ?_)
  refine JL_1 rfl (op_or (Ev.rfl' rfl) rfl (fun h => by first | exact SubL.rfl' | exact SubL.iteT (by first | (rw [h]; rfl) | (simp_all; done)) SubL.rfl')) ?_
  refine JL_1 rfl (op_assign rfl) ?_
  refine JL_nil ?_
  refine JQ_then ?_
  refine JC_cond (Ev.rfl' rfl) (fun h2 => ?_) (fun h2 => ?_)
  · have g1 : ¬ heapB p.l = true := by
      intro hh
      rw [hh] at h2
      simp at h2
      omega
    have e : allP p kind aux = (Pg.nil, 1) := by unfold allP; rw [if_neg g1]
    rw [e]
    refine JC_seq ?_
    refine JC_region ?_
    refine JL_1 rfl (op_buildN (qs := []) rfl rfl rfl rfl trivial (by rfl) nrmT) ?_
    refine JL_s0 (op_storeN (Ev.rfl' rfl) (Ev.rfl' rfl) cellsT replT nrmT (by rfl) (by rfl) (by rfl)) ?_
    refine JL_1 rfl (op_assign rfl) ?_
    refine JL_nil ?_
    refine JQ_then (JC_ret (JQ_block_ret (JQ_then_ret ?_)))
    exact JQ_ret (Bs := [IsPg Pg.nil, Is (.int .i64 1)]) Try.results41 ⟨⟨_, _, _, _, rfl, memT, rfl, .inr ⟨rfl, _, rfl, rfl, subT⟩⟩, ⟨⟨_, rfl, subT⟩, trivial⟩⟩ () SubL.rfl' (List.nil_sublist _)
  have g1 : heapB p.l = true := by simp at h2; exact h2.1.1
  refine JC_seq ?_
  refine JC_region ?_
  refine JL_1 rfl (by first | exact op_loadRefsN (n := 9) (Ev.rfl' rfl) rfl rfl rfl (by rfl) nrmT | exact op_loadPtrsN (n := 9) (Ev.rfl' rfl) memT (by rfl) (by rfl) (by rfl) (by rfl) nrmT) ?_
  refine JL_1 rfl (op_call Try.call88 (Locked_ok _) ⟨evS, trivial⟩) ?_
  refine JL_1 rfl (op_assign rfl) ?_
  refine JL_nil ?_
  refine JQ_then ?_
  refine JC_cond (Ev.rfl' rfl) (fun h4 => ?_) (fun h4 => ?_)
  · have e : allP p kind aux = (Pg.nil, 3) := by unfold allP; rw [if_pos g1, if_pos (show lockB p = true from h4)]
    rw [e]
    refine JC_seq ?_
    refine JC_region ?_
    refine JL_1 rfl (op_buildN (qs := []) rfl rfl rfl rfl trivial (by rfl) nrmT) ?_
    refine JL_s0 (op_storeN (Ev.rfl' rfl) (Ev.rfl' rfl) cellsT replT nrmT (by rfl) (by rfl) (by rfl)) ?_
    refine JL_1 rfl (op_assign rfl) ?_
    refine JL_nil ?_
    refine JQ_then (JC_ret (JQ_block_ret (JQ_then_ret ?_)))
    exact JQ_ret (Bs := [IsPg Pg.nil, Is (.int .i64 3)]) Try.results41 ⟨⟨_, _, _, _, rfl, memT, rfl, .inr ⟨rfl, _, rfl, rfl, subT⟩⟩, ⟨⟨_, rfl, subT⟩, trivial⟩⟩ () SubL.rfl' (List.nil_sublist _)
  have g2 : ¬ lockB p = true := fun e => Bool.noConfusion (show false = true from h4.symm.trans e)
  refine JC_seq ?_
  refine JC_region ?_
  refine JL_1 rfl (by first | exact op_fieldPtr (k := 0) (Ev.rfl' rfl) rfl rfl rfl rfl | exact op_fieldRefN (k := 0) (Ev.rfl' rfl) rfl rfl rfl rfl nrmT) ?_
  refine JL_1 rfl (by first | exact op_loadRef (Ev.rfl' rfl) rfl rfl rfl | exact op_loadPtr (Ev.rfl' rfl) memT (by rfl) (by rfl) (by rfl)) ?_
  refine JL_1 rfl (op_neq (Ev.rfl' rfl) (Ev.rfl' rfl)) ?_
  refine JL_1 rfl (op_assign rfl) ?_
  refine JL_nil ?_
  refine JQ_then ?_
  refine JC_cond (Ev.rfl' rfl) (fun h6 => ?_) (fun h6 => ?_)
  · have g3 : kindV p.d0 ≠ 0 := by simpa [unpackT] using h6
    have e : allP p kind aux = (Pg.nil, 17) := by unfold allP; rw [if_pos g1, if_neg g2, if_pos g3]
    rw [e]
    refine JC_seq ?_
    refine JC_region ?_
    refine JL_1 rfl (op_buildN (qs := []) rfl rfl rfl rfl trivial (by rfl) nrmT) ?_
    refine JL_s0 (op_storeN (Ev.rfl' rfl) (Ev.rfl' rfl) cellsT replT nrmT (by rfl) (by rfl) (by rfl)) ?_
    refine JL_1 rfl (op_assign rfl) ?_
    refine JL_nil ?_
    refine JQ_then (JC_ret (JQ_block_ret (JQ_then_ret ?_)))
    exact JQ_ret (Bs := [IsPg Pg.nil, Is (.int .i64 17)]) Try.results41 ⟨⟨_, _, _, _, rfl, memT, rfl, .inr ⟨rfl, _, rfl, rfl, subT⟩⟩, ⟨⟨_, rfl, subT⟩, trivial⟩⟩ () SubL.rfl' (List.nil_sublist _)
  have g3 : ¬ kindV p.d0 ≠ 0 := by simpa [unpackT] using h6
  refine JC_seq ?_
  refine JC_region ?_
  refine JL_1 rfl (by first | exact op_fieldPtr (k := 1) (Ev.rfl' rfl) rfl rfl rfl rfl | exact op_fieldRefN (k := 1) (Ev.rfl' rfl) rfl rfl rfl rfl nrmT) ?_
  refine JL_1 rfl (by first | exact op_loadRef (Ev.rfl' rfl) rfl rfl rfl | exact op_loadPtr (Ev.rfl' rfl) memT (by rfl) (by rfl) (by rfl)) ?_
  refine JL_1 rfl (op_eql (Ev.rfl' rfl) (Ev.rfl' rfl)) ?_
  refine JL_1 rfl (op_assign rfl) ?_
  refine JL_nil ?_
  refine JQ_then ?_
  refine JC_cond (Ev.rfl' rfl) (fun h8 => ?_) (fun h8 => ?_)
  · have g4 : genV p.d0 = 16777215 := by simpa [unpackT] using h8
    have e : allP p kind aux = (Pg.nil, 18) := by unfold allP; rw [if_pos g1, if_neg g2, if_neg g3, if_pos g4]
    rw [e]
    refine JC_seq ?_
    refine JC_region ?_
    refine JL_1 rfl (op_buildN (qs := []) rfl rfl rfl rfl trivial (by rfl) nrmT) ?_
    refine JL_s0 (op_storeN (Ev.rfl' rfl) (Ev.rfl' rfl) cellsT replT nrmT (by rfl) (by rfl) (by rfl)) ?_
    refine JL_1 rfl (op_assign rfl) ?_
    refine JL_nil ?_
    refine JQ_then (JC_ret (JQ_block_ret (JQ_then_ret ?_)))
    exact JQ_ret (Bs := [IsPg Pg.nil, Is (.int .i64 18)]) Try.results41 ⟨⟨_, _, _, _, rfl, memT, rfl, .inr ⟨rfl, _, rfl, rfl, subT⟩⟩, ⟨⟨_, rfl, subT⟩, trivial⟩⟩ () SubL.rfl' (List.nil_sublist _)
  have g4 : ¬ genV p.d0 = 16777215 := by simpa [unpackT] using h8
  have e : allP p kind aux = (tagP p ⟨kind, genV p.d0 + 1, aux⟩, 0) := by unfold allP; rw [if_pos g1, if_neg g2, if_neg g3, if_neg g4]
  rw [e]
  clear h8 h6
  refine JC_skip (JQ_block (JQ_then (JC_seq ?_)))
  refine JC_region ?_
  refine JL_1 rfl (by first | exact op_loadRefsN (n := 9) (Ev.rfl' rfl) rfl rfl rfl (by rfl) nrmT | exact op_loadPtrsN (n := 9) (Ev.rfl' rfl) memT (by rfl) (by rfl) (by rfl) (by rfl) nrmT) ?_
  refine JL_1 rfl (op_move rfl) ?_
  refine JL_1 rfl (by first | exact op_fieldPtr (k := 1) (Ev.rfl' rfl) rfl rfl rfl rfl | exact op_fieldRefN (k := 1) (Ev.rfl' rfl) rfl rfl rfl rfl nrmT) ?_
  refine JL_1 rfl (by first | exact op_loadRef (Ev.rfl' rfl) rfl rfl rfl | exact op_loadPtr (Ev.rfl' rfl) memT (by rfl) (by rfl) (by rfl)) ?_
  refine JL_1 rfl (op_add (Ev.rfl' rfl) (Ev.rfl' rfl) (wI64 (n := genV p.d0 + 1) (by omega))) ?_
  refine JL_1 rfl (op_move rfl) ?_
  refine JL_1 rfl (op_buildN (qs := [(0, _), (1, _), (2, _)]) rfl rfl rfl rfl ⟨⟨rfl, _, (Ev.rfl' rfl), cellsT⟩, ⟨⟨rfl, _, (Ev.rfl' rfl), cellsT⟩, ⟨⟨rfl, _, (Ev.rfl' rfl), cellsT⟩, trivial⟩⟩⟩ (by rfl) nrmT) ?_
  refine JL_1 rfl (op_call Try.call91 (tagged_ok p ⟨kind, genV p.d0 + 1, aux⟩) ⟨evS, ⟨evS, trivial⟩⟩) ?_
  refine JL_s0 (op_storeN (Ev.rfl' rfl) (Ev.rfl' rfl) cellsT replT nrmT (by rfl) (by rfl) (by rfl)) ?_
  refine JL_1 rfl (op_assign rfl) ?_
  refine JL_nil ?_
  refine JQ_then (JC_ret ?_)
  exact JQ_ret (Bs := [IsPg (tagP p ⟨kind, genV p.d0 + 1, aux⟩), Is (.int .i64 0)]) Try.results41 ⟨⟨_, _, _, _, rfl, memT, rfl, .inr ⟨rfl, _, rfl, rfl, subT⟩⟩, ⟨⟨_, rfl, subT⟩, trivial⟩⟩ () SubL.rfl' (List.nil_sublist _)
end Go.Proofs.Ytpfojangcgffkaa

/- Contracts: pages committed to a heap. Own work. -/
namespace Go.Proofs.Ytpfojangcgffkaa
open Go.RowKit
set_option linter.unusedVariables false
set_option linter.unusedSimpArgs false
set_option maxRecDepth 100000
def nextH (x : BitVec 64) : BitVec 64 := BitVec.ofInt 64 (IntKind.u64.wrap (IntKind.u64.wrap (IntKind.u64.wrap ((UV x).tdiv 256) + 1) * 256))
def comP (H : List Pg) (w : Pg) : List Pg := if 96 ≤ w.l ∧ w.l < 96 + (H.length : Int) then H.set (w.l - 96).toNat { w with h := nextH (H.getD (w.l - 96).toNat Pg.nil).h } else H
theorem comP_len (H : List Pg) (w : Pg) : (comP H w).length = H.length := by unfold comP; split <;> simp
theorem com_len : ∀ (ws H : List Pg), (ws.foldl comP H).length = H.length
  | [], H => rfl
  | w :: ws, H => by rw [List.foldl_cons, com_len ws, comP_len]
theorem com_take {ws H : List Pg} {k : Nat} {w : Pg} (h : ws[k]? = some w) : (ws.take (k + 1)).foldl comP H = comP ((ws.take k).foldl comP H) w := by
  rw [List.take_add_one, h, List.foldl_append]; rfl
theorem nextH_eq (x : BitVec 64) : IntKind.u64.wrap (IntKind.u64.wrap (IntKind.u64.wrap ((UV x).tdiv 256) + 1) * 256) = UV (nextH x) := (UV_ofInt64 (wrr _)).symm
-- (*bodega/bodegaheap.Heap).Commit: function 39
set_option maxHeartbeats 1000000 in
theorem Commit_ok (b n : Nat) (s : Option Addr × Nat) (lines : Int) (H ws : List Pg) (hH : H.length = n) (hn : n ≤ 200) (hlo : ∀ w, w ∈ ws → -9223372036854775000 ≤ w.l ∧ w.l ≤ 9223372036854775807) :
    Fn Try.prog 39 [Is (.pointer (some ⟨b, 0, none⟩)), IsSl tPg ws] [blk b 80 (heapC (slV n s) lines), buf (slV n s) 25 tPg H] (fun _ : Unit => IsTup []) (fun _ => [blk b 80 (heapC (slV n s) lines), buf (slV n s) 25 tPg (ws.foldl comP H)]) := by
  refine Fn.enterN Try.func39 Try.ntmps39 rfl rfl ?_
  intro c hX
  refine JC_len (t := 1) rfl (fun hlen => ?_)
  refine JC_seq ?_
  refine JC_region ?_
  refine JL_1 rfl (op_assign rfl) ?_
  refine JL_nil ?_
  refine JQ_then (JC_block ?_)
  refine JC_loopP (fun k : Nat => k ≤ ws.length) (fun k => [(0, Is (.pointer (some ⟨b, 0, none⟩))), (1, IsSl tPg ws), (4, Is (.int .i64 (k : Nat)))]) (fun k => [blk b 80 (heapC (slV n s) lines), buf (slV n s) 25 tPg ((ws.take k).foldl comP H)]) (fun k => ws.length - k) 0 (Nat.zero_le _) esubT lessT ?_
  rintro k hk
  refine JC_seq (JC_seq ?_)
  refine JC_region ?_
  refine JL_1 rfl (op_move rfl) ?_
  refine JL_1 rfl (op_move rfl) ?_
  refine JL_1 rfl (by first | exact op_len (Ev.rfl' rfl) rfl | exact op_lenLit (Ev.rfl' rfl) rfl) ?_
  refine JL_1 rfl (op_lss (Ev.rfl' rfl) (Ev.rfl' rfl)) ?_
  refine JL_nil ?_
  refine JQ_then ?_
  refine JC_cond (Ev.rfl' rfl) (fun h1 => ?_) (fun h1 => ?_)
  · have hlt : k < ws.length := by have := of_decide_eq_true h1; omega
    clear h1
    obtain ⟨w, hz⟩ : ∃ z, ws[k]? = some z := ⟨ws[k], List.getElem?_eq_getElem hlt⟩
    have hct := com_take (H := H) hz
    have hwl := hlo w (List.mem_of_getElem? hz)
    obtain ⟨G, hG⟩ : ∃ G, (ws.take k).foldl comP H = G := ⟨_, rfl⟩
    have hGl : G.length = n := by rw [← hG, com_len, hH]
    rw [hG] at hct
    rw [hG]
    refine JC_skip (JQ_then (JC_seq (JC_block (JC_seq ?_))))
    refine JC_region ?_
    refine JL_1 rfl (op_move rfl) ?_
    refine JL_1 rfl (op_move rfl) ?_
    refine JL_1 rfl (by first | exact op_indexBuf (k := _) (Ev.rfl' rfl) memT (Ev.rfl' rfl) rfl rfl idxT lenT | exact op_index (j := _) (Ev.rfl' rfl) (Ev.rfl' rfl) rfl rfl (by first | rfl | omega) hz | exact op_index (j := _) (Ev.rfl' rfl) (Ev.rfl' rfl) rfl rfl (by first | rfl | omega) (by assumption)) ?_
    refine JL_1 rfl (by first | exact op_fieldPtr (k := 0) (Ev.rfl' rfl) rfl rfl rfl rfl | exact op_fieldRefN (k := 0) (Ev.rfl' rfl) rfl rfl rfl rfl nrmT | exact op_fieldBuf (k := 0) (Ev.rfl' rfl) memT lenT rfl rfl rfl rfl) ?_
    refine JL_1 rfl (by first | exact op_loadBuf (Ev.rfl' rfl) memT (by assumption) rfl rfl (by rfl) | exact op_loadBuf0 (Ev.rfl' rfl) memT (by assumption) rfl rfl (by rfl) | exact op_loadRef (Ev.rfl' rfl) rfl rfl rfl | exact op_loadPtr (Ev.rfl' rfl) memT (by rfl) (by rfl) (by rfl)) ?_
    refine JL_1 rfl (op_sub (Ev.rfl' rfl) (Ev.rfl' rfl) wrapT) ?_
    refine JL_1 rfl (op_assign rfl) ?_
    refine JL_nil ?_
    refine JQ_then (JC_seq ?_)
    refine JC_region ?_
    refine JL_1 rfl (op_move rfl) ?_
    refine JL_1 rfl (op_geq (Ev.rfl' rfl) (Ev.rfl' rfl)) ?_
    refine JL_1 rfl (op_move rfl) ?_
    (first | refine JL_i0 rfl rfl rfl (fun hg => (by have hg0 := hg; (try simp at hg); first | exact op_moveE (Ev.sub rfl (SubL.iteT (by first | assumption | (simp; done) | (simp; omega) | (simp_all; done)) SubL.rfl')) | exact op_moveE (Ev.rfl' rfl))) ?_ | refine JL_i rfl rfl rfl (fun hp hg => (by have hpg := Bool.and_eq_true_iff.2 ⟨hp, hg⟩; have hg0 := hg; (try simp at hg); first | exact op_moveE (Ev.sub rfl (SubL.iteT (by first | assumption | (simp; done) | (simp; omega) | (simp_all; done)) SubL.rfl')) | exact op_moveE (Ev.rfl' rfl))) ?_)
    (first | refine JL_i0 rfl rfl rfl (fun hg => (by have hg0 := hg; (try simp at hg); first | exact op_moveE (Ev.sub rfl (SubL.iteT (by first | assumption | (simp; done) | (simp; omega) | (simp_all; done)) SubL.rfl')) | exact op_moveE (Ev.rfl' rfl))) ?_ | refine JL_i rfl rfl rfl (fun hp hg => (by have hpg := Bool.and_eq_true_iff.2 ⟨hp, hg⟩; have hg0 := hg; (try simp at hg); first | exact op_moveE (Ev.sub rfl (SubL.iteT (by first | assumption | (simp; done) | (simp; omega) | (simp_all; done)) SubL.rfl')) | exact op_moveE (Ev.rfl' rfl))) ?_)
    (first | refine JL_i0 rfl rfl rfl (fun hg => (by have hg0 := hg; (try simp at hg); first | exact op_nilCheck evG | exact op_nilRef evG | exact op_nilBuf evG memT lenT)) ?_ | refine JL_i rfl rfl rfl (fun hp hg => (by have hpg := Bool.and_eq_true_iff.2 ⟨hp, hg⟩; have hg0 := hg; (try simp at hg); first | exact op_nilCheck evG | exact op_nilRef evG | exact op_nilBuf evG memT lenT)) ?_)
    (first | refine JL_i0 rfl rfl rfl (fun hg => (by have hg0 := hg; (try simp at hg); first | exact op_fieldPtr (k := 0) evG rfl rfl rfl rfl | exact op_fieldRefN (k := 0) evG rfl rfl rfl rfl nrmT | exact op_fieldBuf (k := 0) evG memT lenT rfl rfl rfl rfl)) ?_ | refine JL_i rfl rfl rfl (fun hp hg => (by have hpg := Bool.and_eq_true_iff.2 ⟨hp, hg⟩; have hg0 := hg; (try simp at hg); first | exact op_fieldPtr (k := 0) evG rfl rfl rfl rfl | exact op_fieldRefN (k := 0) evG rfl rfl rfl rfl nrmT | exact op_fieldBuf (k := 0) evG memT lenT rfl rfl rfl rfl)) ?_)
    (first | refine JL_i0 rfl rfl rfl (fun hg => (by have hg0 := hg; (try simp at hg); first | exact op_loadBuf evG memT (by assumption) rfl rfl (by rfl) | exact op_loadBuf0 evG memT (by assumption) rfl rfl (by rfl) | exact op_loadRef evG rfl rfl rfl | exact op_loadPtr evG memT (by rfl) (by rfl) (by rfl))) ?_ | refine JL_i rfl rfl rfl (fun hp hg => (by have hpg := Bool.and_eq_true_iff.2 ⟨hp, hg⟩; have hg0 := hg; (try simp at hg); first | exact op_loadBuf evG memT (by assumption) rfl rfl (by rfl) | exact op_loadBuf0 evG memT (by assumption) rfl rfl (by rfl) | exact op_loadRef evG rfl rfl rfl | exact op_loadPtr evG memT (by rfl) (by rfl) (by rfl))) ?_)
    (first | refine JL_i0 rfl rfl rfl (fun hg => (by have hg0 := hg; (try simp at hg); first | exact op_len evG rfl | exact op_lenLit evG rfl)) ?_ | refine JL_i rfl rfl rfl (fun hp hg => (by have hpg := Bool.and_eq_true_iff.2 ⟨hp, hg⟩; have hg0 := hg; (try simp at hg); first | exact op_len evG rfl | exact op_lenLit evG rfl)) ?_)
    (first | refine JL_i0 rfl rfl rfl (fun hg => (by have hg0 := hg; (try simp at hg); exact op_lss evG evG)) ?_ | refine JL_i rfl rfl rfl (fun hp hg => (by have hpg := Bool.and_eq_true_iff.2 ⟨hp, hg⟩; have hg0 := hg; (try simp at hg); exact op_lss evG evG)) ?_)
    refine JL_1 rfl (op_and (Ev.rfl' rfl) rfl (fun h => by first | exact SubL.rfl' | exact SubL.iteT (by first | (rw [h]; rfl) | (simp_all; done)) SubL.rfl')) ?_
    refine JL_nil ?_
    refine JQ_then ?_
    refine JC_cond (Ev.rfl' rfl) (fun h4 => ?_) (fun h4 => ?_)
    · have g : 96 ≤ w.l ∧ w.l < 96 + (n : Int) := by simp at h4; omega
      obtain ⟨j, hj⟩ : ∃ j : Nat, w.l - 96 = (j : Int) := ⟨(w.l - 96).toNat, by omega⟩
      have hjn : j < G.length := by omega
      obtain ⟨q, hq⟩ : ∃ q, G[j]? = some q := ⟨G[j], List.getElem?_eq_getElem hjn⟩
      have hcv : comP G w = G.set j { w with h := nextH q.h } := by
        unfold comP
        rw [if_pos (by omega), hj, Int.toNat_natCast, List.getD_eq_getElem?_getD, hq]
        rfl
      rw [hcv] at hct
      clear h4
      rw [hj]
      refine JC_seq ?_
      refine JC_region ?_
      refine JL_1 rfl (op_move rfl) ?_
      refine JL_1 rfl (op_move rfl) ?_
      refine JL_1 rfl (by first | exact op_indexBuf (k := _) (Ev.rfl' rfl) memT (Ev.rfl' rfl) rfl rfl idxT lenT | exact op_index (j := _) (Ev.rfl' rfl) (Ev.rfl' rfl) rfl rfl (by first | rfl | omega) hz | exact op_index (j := _) (Ev.rfl' rfl) (Ev.rfl' rfl) rfl rfl (by first | rfl | omega) (by assumption)) ?_
      refine JL_1 rfl (by first | exact op_loadBufs (Ev.rfl' rfl) memT (by assumption) rfl rfl rfl | exact op_loadRefsN (n := 9) (Ev.rfl' rfl) rfl rfl rfl (by rfl) nrmT | exact op_loadPtrsN (n := 9) (Ev.rfl' rfl) memT (by rfl) (by rfl) (by rfl) (by rfl) nrmT) ?_
      (refine JL_n rfl (op_allocN rfl nrmT rfl) ?_; intro i6)
      refine JL_s0 (op_storeN (Ev.rfl' rfl) (Ev.rfl' rfl) cellsT replT nrmT (by rfl) (by rfl) (by rfl)) ?_
      refine JL_nil ?_
      refine JQ_then (JC_seq ?_)
      refine JC_region ?_
      refine JL_1 rfl (op_move rfl) ?_
      refine JL_1 rfl (by first | exact op_nilCheck (Ev.rfl' rfl) | exact op_nilRef (Ev.rfl' rfl) | exact op_nilBuf (Ev.rfl' rfl) memT lenT) ?_
      refine JL_1 rfl (by first | exact op_fieldPtr (k := 0) (Ev.rfl' rfl) rfl rfl rfl rfl | exact op_fieldRefN (k := 0) (Ev.rfl' rfl) rfl rfl rfl rfl nrmT | exact op_fieldBuf (k := 0) (Ev.rfl' rfl) memT lenT rfl rfl rfl rfl) ?_
      refine JL_1 rfl (by first | exact op_loadBuf (Ev.rfl' rfl) memT hq rfl rfl (by rfl) | exact op_loadBuf0 (Ev.rfl' rfl) memT hq rfl rfl (by rfl) | exact op_loadRef (Ev.rfl' rfl) rfl rfl rfl | exact op_loadPtr (Ev.rfl' rfl) memT (by rfl) (by rfl) (by rfl)) ?_
      refine JL_1 rfl (op_move rfl) ?_
      refine JL_1 rfl (by first | exact op_indexBuf (k := j) (Ev.rfl' rfl) memT (Ev.rfl' rfl) rfl rfl idxT lenT | exact op_index (j := _) (Ev.rfl' rfl) (Ev.rfl' rfl) rfl rfl (by first | rfl | omega) hz | exact op_index (j := _) (Ev.rfl' rfl) (Ev.rfl' rfl) rfl rfl (by first | rfl | omega) (by assumption)) ?_
      refine JL_1 rfl (by first | exact op_fieldPtr (k := 1) (Ev.rfl' rfl) rfl rfl rfl rfl | exact op_fieldRefN (k := 1) (Ev.rfl' rfl) rfl rfl rfl rfl nrmT | exact op_fieldBuf (k := 1) (Ev.rfl' rfl) memT lenT rfl rfl rfl rfl) ?_
      refine JL_1 rfl (by first | exact op_loadBuf (Ev.rfl' rfl) memT hq rfl rfl (by rfl) | exact op_loadBuf0 (Ev.rfl' rfl) memT hq rfl rfl (by rfl) | exact op_loadRef (Ev.rfl' rfl) rfl rfl rfl | exact op_loadPtr (Ev.rfl' rfl) memT (by rfl) (by rfl) (by rfl)) ?_
      refine JL_1 rfl (op_quo (Ev.rfl' rfl) (Ev.rfl' rfl) (by omega) wrapT) ?_
      refine JL_1 rfl (by first | exact op_binU ev64 ev64 (add_u64 _ _ _) | exact op_add (Ev.rfl' rfl) (Ev.rfl' rfl) wrapT) ?_
      refine JL_1 rfl (by first | exact op_binU ev64 ev64 (mul_u64 _ _ _) | exact op_mul (Ev.rfl' rfl) (Ev.rfl' rfl) wrapT) ?_
      refine JL_1 rfl (by first | exact op_fieldPtr (k := 1) (Ev.rfl' rfl) rfl rfl rfl rfl | exact op_fieldRefN (k := 1) (Ev.rfl' rfl) rfl rfl rfl rfl nrmT | exact op_fieldBuf (k := 1) (Ev.rfl' rfl) memT lenT rfl rfl rfl rfl) ?_
      refine JL_set 44 (Is (.int .u64 (UV (nextH q.h)))) rfl (SubL.eq (congrArg Is (congrArg (Value.int .u64) (nextH_eq q.h)))) ?_
      refine JL_s0 (op_storeN (Ev.rfl' rfl) (Ev.rfl' rfl) cellsT replT nrmT (by rfl) (by rfl) (by rfl)) ?_
      refine JL_nil ?_
      refine JQ_then ?_
      refine JC_dr rfl (by kernel_rfl) ?_
      refine JD_phase [0, 1, 1, 1, 0, 1, 1, 2] (by kernel_rfl) (by kernel_rfl) ?_
      refine PW_0 (op_move rfl) ?_
      refine PW_1 (by first | exact op_nilCheck (Ev.rfl' rfl) | exact op_nilRef (Ev.rfl' rfl) | exact op_nilBuf (Ev.rfl' rfl) memT lenT) ?_
      refine PW_1 (by first | exact op_fieldPtr (k := 0) (Ev.rfl' rfl) rfl rfl rfl rfl | exact op_fieldRefN (k := 0) (Ev.rfl' rfl) rfl rfl rfl rfl nrmT | exact op_fieldBuf (k := 0) (Ev.rfl' rfl) memT lenT rfl rfl rfl rfl) ?_
      refine PW_1 (by first | exact op_loadBuf (Ev.rfl' rfl) memT hq rfl rfl (by rfl) | exact op_loadBuf0 (Ev.rfl' rfl) memT hq rfl rfl (by rfl) | exact op_loadRef (Ev.rfl' rfl) rfl rfl rfl | exact op_loadPtr (Ev.rfl' rfl) memT (by rfl) (by rfl) (by rfl)) ?_
      refine PW_0 (op_move rfl) ?_
      refine PW_1 (by first | exact op_loadBufs (Ev.rfl' rfl) memT hq rfl rfl rfl | exact op_loadRefsN (n := 9) (Ev.rfl' rfl) rfl rfl rfl (by rfl) nrmT | exact op_loadPtrsN (n := 9) (Ev.rfl' rfl) memT (by rfl) (by rfl) (by rfl) (by rfl) nrmT) ?_
      refine PW_1 (by first | exact op_indexBuf (k := j) (Ev.rfl' rfl) memT (Ev.rfl' rfl) rfl rfl idxT lenT | exact op_index (j := _) (Ev.rfl' rfl) (Ev.rfl' rfl) rfl rfl (by first | rfl | omega) hz | exact op_index (j := _) (Ev.rfl' rfl) (Ev.rfl' rfl) rfl rfl (by first | rfl | omega) (by assumption)) ?_
      refine PW_2 (by first | exact op_storeBuf (z' := { w with h := nextH q.h }) (Ev.rfl' rfl) (Ev.rfl' rfl) cellsT replT hq rfl (by rfl) (by rfl) | exact op_storeBuf0 (z' := { w with h := nextH q.h }) (Ev.rfl' rfl) (Ev.rfl' rfl) cellsT replT hq rfl (by rfl) (by rfl)) ?_
      refine PW_end ?_
      refine JD_end ?_
      refine JQ_block (JQ_then ?_)
      refine JC_region ?_
      refine JL_1 rfl (op_move rfl) ?_
      refine JL_1 rfl (op_add (Ev.rfl' rfl) (Ev.rfl' rfl) wrapT) ?_
      refine JL_1 rfl (op_assign rfl) ?_
      refine JL_nil ?_
      first | (rw [← hct]; exact JQ_roundP (k + 1) (by omega) (by omega) esubT lessT) | exact JQ_roundP (k + 1) (by omega) (by omega) esubT lessT
    have hcv : comP G w = G := by
      unfold comP
      rw [if_neg]
      simp at h4
      omega
    rw [hcv] at hct
    rw [← hct]
    clear h4
    refine JC_skip (JQ_block (JQ_then ?_))
    refine JC_region ?_
    refine JL_1 rfl (op_move rfl) ?_
    refine JL_1 rfl (op_add (Ev.rfl' rfl) (Ev.rfl' rfl) wrapT) ?_
    refine JL_1 rfl (op_assign rfl) ?_
    refine JL_nil ?_
    first | (rw [← hct]; exact JQ_roundP (k + 1) (by omega) (by omega) esubT lessT) | exact JQ_roundP (k + 1) (by omega) (by omega) esubT lessT
  have hke : k = ws.length := by have := of_decide_eq_false h1; omega
  subst hke
  clear h1
  rw [List.take_length]
  refine JC_exit (JQ_then_exit (JQ_then_exit (JQ_hit (JQ_end ?_))))
  exact JQ_retP (Bs := []) Try.results39 trivial () SubL.rfl' lessT
end Go.Proofs.Ytpfojangcgffkaa

/- Contracts: the number of ones of a word; the pages of a segment that are not allocated; maps looked up. Own work. -/
namespace Go.Proofs.Ytpfojangcgffkaa
open Go.RowKit
set_option linter.unusedVariables false
set_option linter.unusedSimpArgs false
set_option maxRecDepth 100000
theorem op_indexPop {P : Program} {c : Ctx} {A : Nat → Option VP} {L : List Item} {d : Option Tmp} {ty : TypeId} {pos : String} {af : Array Edge} {g : Option (Nat × Bool)} {t : TypeId} {s : ByteArray} {y : Operand} {q : IntKind} {j : Int} (hs : s = Lib.pop8tab) (hu : P.underlying t = some .string) (hy : Ev A L y (Is (.int q j))) (h0 : 0 ≤ j) (h1 : j ≤ 255) :
    OpP P c ⟨d, .index t (.const (.string s)) y, ty, pos, af, g⟩ A L (Is (.int .u8 (Lib.pop8 j))) :=
  opp fun φ a w hm he => by
    have e1 : a.eval y = .int q j := he y (by simp [Op.operands]) _ hy
    refine ⟨_, ?_, rfl⟩
    have e2 : a.eval (.const (.string s)) = .string s := rfl
    simp only [execOp, e1, e2, hs]
    exact run_val (Lib.run_index_pop8tab w t q j hu h0 h1)
theorem pop8_rng : ∀ n : Fin 256, 0 ≤ Lib.pop8 (n.val : Int) ∧ Lib.pop8 (n.val : Int) ≤ 8 := by decide +kernel
theorem pop8_in {j : Int} (h0 : 0 ≤ j) (h1 : j ≤ 255) : 0 ≤ Lib.pop8 j ∧ Lib.pop8 j ≤ 8 := by
  have h := pop8_rng ⟨j.toNat, by omega⟩
  rw [show ((⟨j.toNat, by omega⟩ : Fin 256).val : Int) = j by simp; omega] at h
  exact h
theorem wU8 {n : Int} (h : 0 ≤ n ∧ n < 256) : IntKind.u8.wrap n = n := by
  rw [to_u8_int]; unfold UV; rw [BitVec.toNat_ofInt]; simp; omega
def popV (u : BitVec 32) : Int := Lib.pop8 (UV (u >>> 24)) + Lib.pop8 (UV (u >>> 16 &&& BitVec.ofInt 32 255)) + Lib.pop8 (UV (u >>> 8 &&& BitVec.ofInt 32 255)) + Lib.pop8 (UV (u &&& BitVec.ofInt 32 255))
theorem b255 (x : BitVec 32) : 0 ≤ UV (x &&& BitVec.ofInt 32 255) ∧ UV (x &&& BitVec.ofInt 32 255) ≤ 255 := by
  rw [UV_low 32 8 x _ rfl]
  have := UV_nonneg x
  omega
theorem b24 (x : BitVec 32) : 0 ≤ UV (x >>> 24) ∧ UV (x >>> 24) ≤ 255 := by
  rw [UV_shr]
  have := UV_nonneg x
  have h : UV x < 4294967296 := by unfold UV; have := x.isLt; omega
  omega
theorem popV_rng (u : BitVec 32) : 0 ≤ popV u ∧ popV u ≤ 32 := by
  unfold popV
  have h1 := pop8_in (b24 u).1 (b24 u).2
  have h2 := pop8_in (b255 (u >>> 16)).1 (b255 (u >>> 16)).2
  have h3 := pop8_in (b255 (u >>> 8)).1 (b255 (u >>> 8)).2
  have h4 := pop8_in (b255 u).1 (b255 u).2
  omega
-- math/bits.OnesCount32: function 116
theorem OnesCount32_ok (u : BitVec 32) : FnP Try.prog 116 [Is (.int .u32 (UV u))] (Is (.int .i64 (popV u))) := by
  have h1 := pop8_in (b24 u).1 (b24 u).2
  have h2 := pop8_in (b255 (u >>> 16)).1 (b255 (u >>> 16)).2
  have h3 := pop8_in (b255 (u >>> 8)).1 (b255 (u >>> 8)).2
  have h4 := pop8_in (b255 u).1 (b255 u).2
  refine FnP.enter Try.func116 Try.ntmps116 rfl rfl ?_
  intro c hX
  refine JC_seq ?_
  refine JC_region ?_
  refine JL_1 rfl (op_assign rfl) ?_
  refine JL_nil ?_
  refine JQ_then (JC_seq ?_)
  refine JC_dr rfl (by kernel_rfl) ?_
  refine JD_stretch 19 (by kernel_rfl) ?_
  refine JW_1 (op_move rfl) ?_
  refine JW_1 (by first | exact op_shrU32 (k := 24) ev32 (Ev.rfl' rfl) (by first | omega | exact UV_nonneg _) idxT | exact op_shr (Ev.rfl' rfl) (Ev.rfl' rfl) (by first | omega | exact UV_nonneg _) rfl) ?_
  refine JW_1 (op_indexPop rfl rfl (Ev.rfl' rfl) (b24 u).1 (b24 u).2) ?_
  refine JW_1 (op_move rfl) ?_
  refine JW_1 (by first | exact op_shrU32 (k := 16) ev32 (Ev.rfl' rfl) (by first | omega | exact UV_nonneg _) idxT | exact op_shr (Ev.rfl' rfl) (Ev.rfl' rfl) (by first | omega | exact UV_nonneg _) rfl) ?_
  refine JW_1 (by first | exact op_bits ev32 ev32 (by simp) (and_u32 _ _) | exact op_bits (Ev.rfl' rfl) (Ev.rfl' rfl) (by simp) rfl) ?_
  refine JW_1 (op_indexPop rfl rfl (Ev.rfl' rfl) (b255 _).1 (b255 _).2) ?_
  refine JW_1 (op_add (Ev.rfl' rfl) (Ev.rfl' rfl) (wU8 (by omega))) ?_
  refine JW_1 (op_move rfl) ?_
  refine JW_1 (by first | exact op_shrU32 (k := 8) ev32 (Ev.rfl' rfl) (by first | omega | exact UV_nonneg _) idxT | exact op_shr (Ev.rfl' rfl) (Ev.rfl' rfl) (by first | omega | exact UV_nonneg _) rfl) ?_
  refine JW_1 (by first | exact op_bits ev32 ev32 (by simp) (and_u32 _ _) | exact op_bits (Ev.rfl' rfl) (Ev.rfl' rfl) (by simp) rfl) ?_
  refine JW_1 (op_indexPop rfl rfl (Ev.rfl' rfl) (b255 _).1 (b255 _).2) ?_
  refine JW_1 (op_add (Ev.rfl' rfl) (Ev.rfl' rfl) (wU8 (by omega))) ?_
  refine JW_1 (op_move rfl) ?_
  refine JW_1 (by first | exact op_bits ev32 ev32 (by simp) (and_u32 _ _) | exact op_bits (Ev.rfl' rfl) (Ev.rfl' rfl) (by simp) rfl) ?_
  refine JW_1 (op_indexPop rfl rfl (Ev.rfl' rfl) (b255 _).1 (b255 _).2) ?_
  refine JW_1 (op_add (Ev.rfl' rfl) (Ev.rfl' rfl) (wU8 (by omega))) ?_
  refine JW_1 (op_conv (Ev.rfl' rfl) rfl rfl (wI64 (by omega))) ?_
  refine JW_1 (op_assign rfl) ?_
  refine ⟨rfl, ?_⟩
  refine JD_end ?_
  refine JQ_then (JC_ret ?_)
  refine JQ_ret1 Try.results116 rfl () (SubL.eq ?_) (List.nil_sublist _)
  rfl
def vacV (h : Hd) : Int := 15 - popV h.used
-- segment.vacant: function 85
theorem vacant_ok (h : Hd) : FnP Try.prog 85 [IsHd h] (Is (.int .i64 (vacV h))) := by
  have := popV_rng h.used
  refine FnP.enter Try.func85 Try.ntmps85 rfl rfl ?_
  intro c hX
  refine JC_seq ?_
  refine JC_region ?_
  (refine JL_n rfl (op_box (Ev.rfl' rfl) cellsT) ?_; intro i1)
  refine JL_1 rfl (op_assign rfl) ?_
  refine JL_nil ?_
  refine JQ_then (JC_seq ?_)
  refine JC_region ?_
  refine JL_1 rfl (by first | exact op_fieldPtr (k := 1) (Ev.rfl' rfl) rfl rfl rfl rfl | exact op_fieldRefN (k := 1) (Ev.rfl' rfl) rfl rfl rfl rfl nrmT) ?_
  refine JL_1 rfl (by first | exact op_loadRef (Ev.rfl' rfl) rfl rfl rfl | exact op_loadPtr (Ev.rfl' rfl) memT (by rfl) (by rfl) (by rfl)) ?_
  refine JL_1 rfl (op_call Try.call116 (OnesCount32_ok _) ⟨evS, trivial⟩) ?_
  refine JL_1 rfl (op_sub (Ev.rfl' rfl) (Ev.rfl' rfl) wrapT) ?_
  refine JL_1 rfl (op_assign rfl) ?_
  refine JL_nil ?_
  refine JQ_then (JC_ret ?_)
  refine JQ_ret1 Try.results85 rfl () (SubL.eq ?_) (List.nil_sublist _)
  rfl
/-! ### Maps: a key that is there, a key that is not -/
section
variable {P : Program} {c : Ctx} {A : Nat → Option VP} {L : List Item} {d : Option Tmp} {ty : TypeId} {pos : String} {af : Array Edge} {g : Option (Nat × Bool)} {α : Type} {V : α → VP} {l : List (Int × α)} {b : Nat} {t kt et : TypeId} {x y : Operand}
theorem op_lookupS {k : Int} {zv : Value} {v : α} (hv : mget l k = some v) (hx : Ev A L x (Is (.map (some b)))) (hL : mp b V l ∈ L) (hy : Ev A L y (Is (.int .i64 k))) (hu : P.underlying t = some (.map kt et)) (hk : P.underlying kt = some (.int .i64)) (hz : (P.info? et).map (·.zero) = some (some zv)) :
    OpP P c ⟨d, .lookup t x y false, ty, pos, af, g⟩ A L (V v) := by
  have h := op_lookup (P := P) (c := c) (d := d) (ty := ty) (pos := pos) (af := af) (g := g) hx hL hy hu hk hz
  rw [hv] at h
  exact h
end
end Go.Proofs.Ytpfojangcgffkaa

/- Plain laws: which pages are taken when pages are allocated. Own work. -/
namespace Go.Proofs.Ytpfojangcgffkaa
open Go.RowKit
set_option linter.unusedVariables false
set_option linter.unusedSimpArgs false
set_option maxRecDepth 100000
/-! ### Maps that are told as lists of keys -/
theorem mput_new {α : Type} {k : Int} {x : α} : ∀ {l : List (Int × α)}, k ∉ l.map Prod.fst → mput l k x = l ++ [(k, x)]
  | [], _ => rfl
  | (j, y) :: l, h => by
    simp only [List.map_cons, List.mem_cons, not_or] at h
    unfold mput
    rw [if_neg (fun e => h.1 e.symm), mput_new h.2]
    rfl
theorem mput_last {α : Type} {k : Int} {x y : α} : ∀ {l : List (Int × α)}, k ∉ l.map Prod.fst → mput (l ++ [(k, y)]) k x = l ++ [(k, x)]
  | [], _ => by simp [mput]
  | (j, z) :: l, h => by
    simp only [List.map_cons, List.mem_cons, not_or] at h
    rw [List.cons_append]
    unfold mput
    rw [if_neg (fun e => h.1 e.symm), mput_last h.2]
    rfl
theorem mget_none {α : Type} {k : Int} : ∀ {l : List (Int × α)}, k ∉ l.map Prod.fst → mget l k = none
  | [], _ => rfl
  | (j, y) :: l, h => by
    simp only [List.map_cons, List.mem_cons, not_or] at h
    unfold mget
    rw [if_neg (fun e => h.1 e.symm), mget_none h.2]
theorem mget_map {α : Type} {f : Int → α} {s : Int} : ∀ {S : List Int}, s ∈ S → mget (S.map fun s => (s, f s)) s = some (f s)
  | [], h => by cases h
  | j :: S, h => by
    simp only [List.map_cons]
    unfold mget
    by_cases e : j = s
    · rw [if_pos e, e]
    · rw [if_neg e]
      rcases List.mem_cons.1 h with h | h
      · exact absurd h.symm e
      · exact mget_map h
theorem mget_append_right {α : Type} {k : Int} : ∀ {l m : List (Int × α)}, k ∉ l.map Prod.fst → mget (l ++ m) k = mget m k
  | [], m, _ => rfl
  | (j, y) :: l, m, h => by
    simp only [List.map_cons, List.mem_cons, not_or] at h
    rw [List.cons_append]
    conv => lhs; unfold mget
    rw [if_neg (fun e => h.1 e.symm), mget_append_right h.2]
theorem not_in_take {S : List Int} {k : Nat} {s : Int} (hz : S[k]? = some s) (hnd : S.Nodup) : s ∉ S.take k := fun hm => by
  obtain ⟨j, hj, e⟩ := List.getElem_of_mem hm
  rw [List.getElem_take] at e
  obtain ⟨hk, e2⟩ := List.getElem?_eq_some_iff.1 hz
  have hjk : j < k := by simp at hj; omega
  exact (List.pairwise_iff_getElem.1 hnd) j k (by omega) hk hjk (e.trans e2.symm)
theorem mput_map {α : Type} {f : Int → α} {S : List Int} {k : Nat} {s : Int} (hz : S[k]? = some s) (hnd : S.Nodup) : mput ((S.take k).map fun s => (s, f s)) s (f s) = (S.take (k + 1)).map fun s => (s, f s) := by
  rw [mput_new, List.take_add_one, hz, List.map_append]
  · rfl
  · rw [List.map_map]
    show s ∉ (S.take k).map (fun x => x)
    rw [List.map_id']
    exact not_in_take hz hnd
/-! ### The segments of a bitmap are different -/
theorem ownV_lt {bm : BitVec 32} {x : Int} : ∀ {n : Nat}, x ∈ ownV bm n → 0 ≤ x ∧ x < n
  | 0, h => by cases h
  | n + 1, h => by
    unfold ownV at h
    split at h
    · rcases List.mem_append.1 h with h | h
      · have := ownV_lt h; omega
      · simp at h; omega
    · have := ownV_lt h; omega
theorem ownV_nodup (bm : BitVec 32) : ∀ n : Nat, (ownV bm n).Nodup
  | 0 => List.nodup_nil
  | n + 1 => by
    unfold ownV
    split
    · refine List.nodup_append.2 ⟨ownV_nodup bm n, by simp, fun a ha b hb e => ?_⟩
      simp at hb
      have := ownV_lt ha
      omega
    · exact ownV_nodup bm n
/-! ### What is taken -/
abbrev Pk := List (Int × List Nat)
abbrev Alo := List Int × List Pg × List Pg × Int × Bool
@[reducible] def errA (e : Int) : Alo := ([], [], [], e, true)
def orb (u : BitVec 32) (q : List Nat) : BitVec 32 := q.foldl (fun u i => u ||| BitVec.ofInt 32 1 <<< i) u
theorem orb_snoc (u : BitVec 32) (q : List Nat) (i : Nat) : orb u (q ++ [i]) = orb u q ||| BitVec.ofInt 32 1 <<< i := by unfold orb; rw [List.foldl_append]; rfl
def pkV (ks : List Pg) (l : Int) : Int :=
  if latB ks l = true then (if lockB (latP ks l) = true then 3 else if kindV (latP ks l).d0 ≠ 0 then 11 else if genV (latP ks l).d0 = 16777215 then -1 else 0) else 0
def inn (ks : List Pg) (s : Int) (cnt : Nat) : Nat → Nat → Nat → BitVec 32 → List Nat → Except Int (List Nat)
  | 0, _, _, _, q => .ok q
  | f + 1, i, ch, u, q =>
    if ch < cnt then
      if bitB u i = true then inn ks s cnt f (i + 1) ch u q
      else if pkV ks (lineV s + i) = -1 then inn ks s cnt f (i + 1) ch u q
      else if pkV ks (lineV s + i) = 0 then inn ks s cnt f (i + 1) (ch + 1) (u ||| BitVec.ofInt 32 1 <<< i) (q ++ [i])
      else .error (pkV ks (lineV s + i))
    else .ok q
def hdS' (ks : List Pg) (s : Int) : Hd := (headV ks s).2.1
def outS (ks : List Pg) (cnt : Nat) : List Int → Nat → Pk → Except Int Pk
  | [], _, ps => .ok ps
  | s :: ss, ch, ps => match inn ks s cnt 15 1 ch (hdS' ks s).used [] with
    | .error e => .error e
    | .ok q => outS ks cnt ss (ch + q.length) (ps ++ [(s, q)])
def totP (ps : Pk) : Nat := (ps.map fun x => x.2.length).sum
def linP (ps : Pk) : List Int := ps.flatMap fun x => x.2.map fun i : Nat => lineV x.1 + (i : Int)
def needP (ks : List Pg) (ps : Pk) : List Int := (linP ps).filter fun l => !latB ks l
def freP (ks : List Pg) (ps : Pk) : List Pg := ((linP ps).filter fun l => latB ks l).map (latP ks)
def newHd (ks : List Pg) (x : Int × List Nat) : Hd := ⟨(hdS' ks x.1).owner, orb (hdS' ks x.1).used x.2⟩
def chgP (ks : List Pg) (ps : Pk) : List (Int × Hd) := (ps.filter fun x => !x.2.isEmpty).map fun x => (x.1, newHd ks x)
def wriP (ks : List Pg) (ps : Pk) : List Pg := (ps.filter fun x => !x.2.isEmpty).map fun x => (writeH (headV ks x.1).1 (newHd ks x)).1
def finA (ks : List Pg) (cnt : Nat) (ps : Pk) : Alo :=
  if totP ps < cnt then errA 12 else if 0 < (needP ks ps).length then (needP ks ps, [], [], 0, false) else ([], freP ks ps, wriP ks ps, 0, true)
def excA (ks : List Pg) (cnt : Nat) : Except Int Pk → Alo
  | .error e => errA e
  | .ok ps => finA ks cnt ps
def srcV (ks : List Pg) (cnt : Nat) (S : List Int) : List Int := match S.find? fun s => decide (vacV (hdS' ks s) ≥ (cnt : Int)) with
  | some s => [s]
  | none => S
def hdE (ks : List Pg) (cl : Int) : List Int → Option Int
  | [] => none
  | s :: ss => if (headV ks s).2.2.2 ≠ 0 then some (headV ks s).2.2.2 else if (hdS' ks s).owner ≠ cl then some 11 else hdE ks cl ss
def aloH (ks : List Pg) (cl : Int) (cnt : Nat) (S T : List Int) : Alo := match hdE ks cl T with
  | some e => errA e
  | none => excA ks cnt (outS ks cnt (srcV ks cnt S) 0 [])
def innX (ks : List Pg) (cnt : Nat) (s : Int) (ss : List Int) (ch0 : Nat) (ps : Pk) : Except Int (List Nat) → Alo
  | .error e => errA e
  | .ok q => excA ks cnt (outS ks cnt ss (ch0 + q.length) (ps ++ [(s, q)]))
theorem outS_step {ks : List Pg} {cnt : Nat} {s : Int} {ss : List Int} {ch : Nat} {ps : Pk} : excA ks cnt (outS ks cnt (s :: ss) ch ps) = innX ks cnt s ss ch ps (inn ks s cnt 15 1 ch (hdS' ks s).used []) := by
  show excA ks cnt (match inn ks s cnt 15 1 ch (hdS' ks s).used [] with
    | .error e => .error e
    | .ok q => outS ks cnt ss (ch + q.length) (ps ++ [(s, q)])) = _
  cases inn ks s cnt 15 1 ch (hdS' ks s).used [] <;> rfl
theorem linP_snoc (ps : Pk) (s : Int) (q : List Nat) (i : Nat) : linP (ps ++ [(s, q ++ [i])]) = linP (ps ++ [(s, q)]) ++ [lineV s + (i : Int)] := by
  unfold linP
  simp
theorem linP_nil (ps : Pk) (s : Int) : linP (ps ++ [(s, [])]) = linP ps := by unfold linP; simp
theorem tot_snoc (ps : Pk) (s : Int) (q : List Nat) : totP (ps ++ [(s, q)]) = totP ps + q.length := by unfold totP; simp
theorem lin_len (ps : Pk) : (linP ps).length = totP ps := by
  unfold linP totP
  induction ps with
  | nil => rfl
  | cons x ps ih => simp [ih]
theorem need_le (ks : List Pg) (ps : Pk) : (needP ks ps).length ≤ totP ps := by
  rw [← lin_len]; exact List.length_filter_le _ _
theorem fre_le (ks : List Pg) (ps : Pk) : (freP ks ps).length ≤ totP ps := by
  rw [← lin_len]; unfold freP; rw [List.length_map]; exact List.length_filter_le _ _
theorem wri_le (ks : List Pg) (ps : Pk) : (wriP ks ps).length ≤ ps.length := by
  unfold wriP; rw [List.length_map]; exact List.length_filter_le _ _
theorem need_snoc0 {ks : List Pg} {ps : Pk} {s : Int} {q : List Nat} {i : Nat} (h : latB ks (lineV s + (i : Int)) = false) : needP ks (ps ++ [(s, q ++ [i])]) = needP ks (ps ++ [(s, q)]) ++ [lineV s + (i : Int)] := by
  unfold needP; rw [linP_snoc, List.filter_append]; simp [h]
theorem need_snoc1 {ks : List Pg} {ps : Pk} {s : Int} {q : List Nat} {i : Nat} (h : latB ks (lineV s + (i : Int)) = true) : needP ks (ps ++ [(s, q ++ [i])]) = needP ks (ps ++ [(s, q)]) := by
  unfold needP; rw [linP_snoc, List.filter_append]; simp [h]
theorem fre_snoc0 {ks : List Pg} {ps : Pk} {s : Int} {q : List Nat} {i : Nat} (h : latB ks (lineV s + (i : Int)) = false) : freP ks (ps ++ [(s, q ++ [i])]) = freP ks (ps ++ [(s, q)]) := by
  unfold freP; rw [linP_snoc, List.filter_append]; simp [h]
theorem fre_snoc1 {ks : List Pg} {ps : Pk} {s : Int} {q : List Nat} {i : Nat} (h : latB ks (lineV s + (i : Int)) = true) : freP ks (ps ++ [(s, q ++ [i])]) = freP ks (ps ++ [(s, q)]) ++ [latP ks (lineV s + (i : Int))] := by
  unfold freP; rw [linP_snoc, List.filter_append]; simp [h]
theorem need_nil (ks : List Pg) (ps : Pk) (s : Int) : needP ks (ps ++ [(s, [])]) = needP ks ps := by unfold needP; rw [linP_nil]
theorem fre_nil (ks : List Pg) (ps : Pk) (s : Int) : freP ks (ps ++ [(s, [])]) = freP ks ps := by unfold freP; rw [linP_nil]
theorem chg_nil (ks : List Pg) (ps : Pk) (s : Int) : chgP ks (ps ++ [(s, [])]) = chgP ks ps := by unfold chgP; simp
theorem chg_keys {ks : List Pg} {ps : Pk} {s : Int} (h : s ∉ ps.map Prod.fst) : s ∉ (chgP ks ps).map Prod.fst := fun hm => by
  unfold chgP at hm
  rw [List.map_map] at hm
  obtain ⟨x, hx, rfl⟩ := List.mem_map.1 hm
  exact h (List.mem_map.2 ⟨x, (List.mem_filter.1 hx).1, rfl⟩)
theorem chg_put {ks : List Pg} {ps : Pk} {s : Int} {q : List Nat} {i : Nat} (h : s ∉ ps.map Prod.fst) : mput (chgP ks (ps ++ [(s, q)])) s (newHd ks (s, q ++ [i])) = chgP ks (ps ++ [(s, q ++ [i])]) := by
  have e : chgP ks (ps ++ [(s, q ++ [i])]) = chgP ks ps ++ [(s, newHd ks (s, q ++ [i]))] := by unfold chgP; simp
  rw [e]
  cases q with
  | nil => rw [chg_nil, mput_new (chg_keys h)]
  | cons a q =>
    have e2 : chgP ks (ps ++ [(s, a :: q)]) = chgP ks ps ++ [(s, newHd ks (s, a :: q))] := by unfold chgP; simp
    rw [e2, mput_last (chg_keys h)]
theorem chg_get {ks : List Pg} : ∀ {ps : Pk} {k : Nat} {s : Int} {q : List Nat}, (ps.map Prod.fst).Nodup → ps[k]? = some (s, q) → mget (chgP ks ps) s = if q = [] then none else some (newHd ks (s, q))
  | [], k, s, q, _, h => by simp at h
  | (s', q') :: ps, 0, s, q, hn, h => by
    simp at h
    obtain ⟨rfl, rfl⟩ := h
    have hk := (List.nodup_cons.1 hn).1
    cases q' with
    | nil =>
      rw [if_pos rfl]
      exact mget_none (by have := chg_keys (ks := ks) hk; unfold chgP at this ⊢; simpa using this)
    | cons a q =>
      rw [if_neg (by simp)]
      have e2 : chgP ks ((s', a :: q) :: ps) = (s', newHd ks (s', a :: q)) :: chgP ks ps := by unfold chgP; simp
      rw [e2]
      unfold mget
      rw [if_pos rfl]
  | (s', q') :: ps, k + 1, s, q, hn, h => by
    have hk := (List.nodup_cons.1 hn).1
    have h' : ps[k]? = some (s, q) := by simpa using h
    have hne : s' ≠ s := fun e => hk (by
      rw [show (s', q').fst = s' from rfl, e]
      exact List.mem_map.2 ⟨_, List.mem_of_getElem? h', rfl⟩)
    have ih := chg_get (ks := ks) (List.nodup_cons.1 hn).2 h'
    cases q' with
    | nil =>
      have e2 : chgP ks ((s', []) :: ps) = chgP ks ps := by unfold chgP; simp
      rw [e2]; exact ih
    | cons a q'' =>
      have e2 : chgP ks ((s', a :: q'') :: ps) = (s', newHd ks (s', a :: q'')) :: chgP ks ps := by unfold chgP; simp
      rw [e2]
      conv => lhs; unfold mget
      rw [if_neg hne]; exact ih
theorem wri_take {ks : List Pg} {ps : Pk} {k : Nat} {s : Int} {q : List Nat} (h : ps[k]? = some (s, q)) : wriP ks (ps.take (k + 1)) = if q = [] then wriP ks (ps.take k) else wriP ks (ps.take k) ++ [(writeH (headV ks s).1 (newHd ks (s, q))).1] := by
  unfold wriP
  rw [List.take_add_one, h, List.filter_append, List.map_append]
  cases q <;> simp
end Go.Proofs.Ytpfojangcgffkaa

/- Contracts: pages allocated. Own work. -/
namespace Go.Proofs.Ytpfojangcgffkaa
open Go.RowKit
set_option linter.unusedVariables false
set_option linter.unusedSimpArgs false
set_option maxRecDepth 100000
theorem LatestP_ok (xs : List Pg) (l : Int) : FnP Try.prog 86 [IsSl tPg xs, Is (.int .i64 l)] (IsTup [IsPg (latP xs l), Is (.bool (latB xs l))]) := Latest_ok xs l
theorem LockedB_ok (p : Pg) : FnP Try.prog 88 [IsPg p] (Is (.bool (lockB p))) := Locked_ok p
-- segment.missing: function 79
theorem missNil_ok (ks : List Pg) (ls : List Int) (hn : missV ks ls = []) : FnP Try.prog 79 [IsSl tPg ks, IsSl tI64 ls] (Is (.slice none 0 0)) := by
  refine FnP.enter Try.func79 Try.ntmps79 rfl rfl ?_
  intro c hX
  refine JC_len (t := 1) rfl (fun hlen => ?_)
  refine JC_seq ?_
  refine JC_region ?_
  refine JL_1 rfl (op_assign rfl) ?_
  refine JL_nil ?_
  refine JQ_then (JC_seq ?_)
  refine JC_region ?_
  refine JL_1 rfl (op_assign rfl) ?_
  refine JL_nil ?_
  refine JQ_then (JC_seq (JC_seq ?_))
  refine JC_region ?_
  refine JL_1 rfl (op_move rfl) ?_
  refine JL_1 rfl (by first | exact op_len (Ev.rfl' rfl) rfl | exact op_lenLit (Ev.rfl' rfl) rfl) ?_
  refine JL_1 rfl (op_move rfl) ?_
  refine JL_nil ?_
  refine JQ_then (JC_block ?_)
  refine JC_loopP (fun k : Nat => k ≤ ls.length) (fun k => [(0, IsSl tPg ks), (1, IsSl tI64 ls), (5, Is (.slice none 0 0)), (10, IsSl tI64 ls), (11, Is (.int .i64 (ls.length : Nat))), (12, Is (.int .i64 (k : Nat)))]) (fun _ => []) (fun k => ls.length - k) 0 (Nat.zero_le _) esubT lessT ?_
  rintro k hk
  refine JC_seq ?_
  refine JC_region ?_
  refine JL_1 rfl (op_lss (Ev.rfl' rfl) (Ev.rfl' rfl)) ?_
  refine JL_nil ?_
  refine JQ_then (JC_seq ?_)
  refine JC_cond (Ev.rfl' rfl) (fun h3 => ?_) (fun h3 => ?_)
  · have hlt : k < ls.length := by have := of_decide_eq_true h3; omega
    clear h3
    obtain ⟨l, hz⟩ : ∃ z, ls[k]? = some z := ⟨ls[k], List.getElem?_eq_getElem hlt⟩
    refine JC_skip (JQ_then (JC_seq (JC_block (JC_seq ?_))))
    refine JC_region ?_
    refine JL_1 rfl (by first | exact op_index (j := _) (Ev.rfl' rfl) (Ev.rfl' rfl) rfl rfl (by first | rfl | omega) hz | exact op_index (j := _) (Ev.rfl' rfl) (Ev.rfl' rfl) rfl rfl (by first | rfl | omega) (by assumption)) ?_
    refine JL_1 rfl (by first | exact op_loadRef (Ev.rfl' rfl) rfl rfl rfl | exact op_loadPtr (Ev.rfl' rfl) memT (by rfl) (by rfl) (by rfl)) ?_
    refine JL_1 rfl (op_assign rfl) ?_
    refine JL_nil ?_
    refine JQ_then (JC_seq ?_)
    refine JC_region ?_
    refine JL_1 rfl (op_move rfl) ?_
    refine JL_1 rfl (op_move rfl) ?_
    refine JL_1 rfl (op_call Try.call86 (Latest_ok _ _) ⟨evS, ⟨evS, trivial⟩⟩) ?_
    refine JL_1 rfl (op_move rfl) ?_
    refine JL_1 rfl (op_extract (Ev.rfl' rfl) rfl) ?_
    refine JL_1 rfl (op_extract (Ev.rfl' rfl) rfl) ?_
    (refine JL_n rfl (op_allocN rfl nrmT rfl) ?_; intro i8)
    refine JL_s0 (op_storeN (Ev.rfl' rfl) (Ev.rfl' rfl) cellsT replT nrmT (by rfl) (by rfl) (by rfl)) ?_
    refine JL_1 rfl (op_assign rfl) ?_
    refine JL_nil ?_
    refine JQ_then (JC_seq ?_)
    refine JC_region ?_
    refine JL_1 rfl (op_move rfl) ?_
    refine JL_1 rfl (op_not (Ev.rfl' rfl)) ?_
    refine JL_nil ?_
    refine JQ_then ?_
    refine JC_cond (Ev.rfl' rfl) (fun h6 => ?_) (fun h6 => ?_)
    · exact absurd (show l ∈ missV ks ls from List.mem_filter.2 ⟨List.mem_of_getElem? hz, by revert h6; cases latO ks l <;> simp⟩) (by rw [hn]; simp)
    refine JC_skip (JQ_block (JQ_then ?_))
    refine JC_region ?_
    refine JL_1 rfl (op_add (Ev.rfl' rfl) (Ev.rfl' rfl) wrapT) ?_
    refine JL_1 rfl (op_move rfl) ?_
    refine JL_nil ?_
    exact JQ_roundP (k + 1) (by omega) (by omega) esubT lessT
  refine JC_exit (JQ_then_exit (JQ_then_exit (JQ_hit (JQ_then (JC_seq ?_)))))
  refine JC_region ?_
  refine JL_1 rfl (op_move rfl) ?_
  refine JL_1 rfl (by first | ((refine op_call Try.call100 (SortI_ok 0 (none, 0) ?_) ⟨evS, trivial⟩); all_goals (first | decide))) ?_
  refine JL_nil ?_
  refine JQ_then (JC_seq ?_)
  refine JC_region ?_
  refine JL_1 rfl (op_move rfl) ?_
  refine JL_1 rfl (by first | ((refine op_call Try.call101 (CompactI_ok 0 (none, 0) ?_) ⟨evS, trivial⟩); all_goals (first | decide))) ?_
  refine JL_1 rfl (op_assign rfl) ?_
  refine JL_nil ?_
  refine JQ_then (JC_ret ?_)
  exact JQ_retP (Bs := [Is (.slice none 0 0)]) Try.results79 ⟨⟨_, rfl, subT⟩, trivial⟩ () SubL.rfl' lessT
section
variable {P : Program} {c : Ctx} {A : Nat → Option VP} {L : List Item} {d : Option Tmp} {ty : TypeId} {pos : String} {af : Array Edge} {g : Option (Nat × Bool)} {α : Type} {V : α → VP} {l : List (Int × α)} {b : Nat} {t kt et : TypeId} {x y : Operand}
theorem op_lookup2D {k : Int} {zv : Value} (z : α) (hz0 : ∀ φ, (V z).ok φ zv) (hx : Ev A L x (Is (.map (some b)))) (hL : mp b V l ∈ L) (hy : Ev A L y (Is (.int .i64 k))) (hu : P.underlying t = some (.map kt et)) (hk : P.underlying kt = some (.int .i64)) (hz : (P.info? et).map (·.zero) = some (some zv)) :
    OpP P c ⟨d, .lookup t x y true, ty, pos, af, g⟩ A L (IsTup [V ((mget l k).getD z), Is (.bool (mget l k).isSome)]) := by
  have h := op_lookup2 (P := P) (c := c) (d := d) (ty := ty) (pos := pos) (af := af) (g := g) hx hL hy hu hk hz
  intro φ a w K Q hm he hk'
  refine h φ a w K Q hm he fun φ' v w' hp hf => hk' φ' v w' hp ?_
  obtain ⟨vs, e, k1⟩ := hf
  refine ⟨vs, e, ?_⟩
  match vs, k1 with
  | [u1, u2], ⟨a1, a2, _⟩ =>
    refine ⟨?_, a2, trivial⟩
    cases hq : mget l k with
    | none =>
      rw [hq] at a1
      have a1' : u1 = zv := a1
      rw [a1']
      exact hz0 φ'
    | some v => rw [hq] at a1; exact a1
end
theorem hd_zero (φ : Fz) : (IsHd Hd.nil).ok φ (.agg #[.int .i64 0, .int .u32 0]) := ⟨[_, _], rfl, ⟨rfl, rfl, trivial⟩, ones_cons rfl (ones_cons rfl ones_nil)⟩
def srcR (ks : List Pg) (cnt : Nat) (S T : List Int) : List Int := match T.find? fun s => decide (vacV (hdS' ks s) ≥ (cnt : Int)) with
  | some s => [s]
  | none => S
theorem srcR_all (ks : List Pg) (cnt : Nat) (S : List Int) : srcV ks cnt S = srcR ks cnt S S := rfl
theorem src_sub {ks : List Pg} {cnt : Nat} {S : List Int} (hn : S.Nodup) : (srcV ks cnt S).Nodup ∧ ∀ s, s ∈ srcV ks cnt S → s ∈ S := by
  unfold srcV
  split
  · rename_i s h
    refine ⟨by simp, fun x hx => ?_⟩
    rw [List.mem_singleton.1 hx]
    exact List.mem_of_find?_eq_some h
  · exact ⟨hn, fun _ h => h⟩
theorem src_len {ks : List Pg} {cnt : Nat} {S : List Int} (h : S.length ≤ 9) : (srcV ks cnt S).length ≤ 9 := by
  unfold srcV
  split
  · simp
  · exact h
theorem drop_at {α : Type} {S : List α} {k : Nat} {s : α} (hz : S[k]? = some s) : S.drop k = s :: S.drop (k + 1) := by
  obtain ⟨hk, e⟩ := List.getElem?_eq_some_iff.1 hz
  rw [List.drop_eq_getElem_cons hk, e]
theorem inn_step {ks : List Pg} {s : Int} {cnt i ch : Nat} {u : BitVec 32} {q : List Nat} (hi : i < 16) (hc : ch < cnt) : inn ks s cnt (16 - i) i ch u q = if bitB u i = true then inn ks s cnt (16 - (i + 1)) (i + 1) ch u q
      else if pkV ks (lineV s + i) = -1 then inn ks s cnt (16 - (i + 1)) (i + 1) ch u q
      else if pkV ks (lineV s + i) = 0 then inn ks s cnt (16 - (i + 1)) (i + 1) (ch + 1) (u ||| BitVec.ofInt 32 1 <<< i) (q ++ [i])
      else .error (pkV ks (lineV s + i)) := by
  obtain ⟨m, e⟩ : ∃ m, 16 - i = m + 1 := ⟨15 - i, by omega⟩
  rw [e, show 16 - (i + 1) = m by omega]
  conv => lhs; unfold inn
  rw [if_pos hc]
theorem inn_stop {ks : List Pg} {s : Int} {cnt i ch : Nat} {u : BitVec 32} {q : List Nat} (h : ¬ (i < 16 ∧ ch < cnt)) : inn ks s cnt (16 - i) i ch u q = .ok q := by
  by_cases hi : i < 16
  · obtain ⟨m, e⟩ : ∃ m, 16 - i = m + 1 := ⟨15 - i, by omega⟩
    rw [e]
    unfold inn
    rw [if_neg (by omega)]
  · rw [show 16 - i = 0 by omega]
    rfl
-- segment.Allocate: function 40
set_option maxHeartbeats 1000000 in
theorem Allocate_ok (ks : List Pg) (cl cnt : Nat) (lines : Int) (pn : Pg) (nd : Nd) (R : Alo) (hc : cl < 6) (hz0 : sizeB lines = true) (hcnt : 1 ≤ cnt ∧ cnt ≤ 12) (hN : nodeV ks cl = (pn, nd, true, 0)) (hM0 : missV ks ((ownV nd.sg (countN lines)).map lineV) = []) (hR0 : aloH ks cl cnt (ownV nd.sg (countN lines)) (ownV nd.sg (countN lines)) = R) :
    Fn Try.prog 40 [IsAgg [Is (.int .i64 (cl : Nat)), Is (.int .i64 lines), Is (.int .i64 (cnt : Nat))], IsSl tPg ks] [] (fun i : (Option Addr × Nat) × (Option Addr × Nat) => IsTup [IsSl tI64 R.1, Is (slV R.2.1.length i.1), Is (slV R.2.2.1.length i.2), Is (.int .i64 R.2.2.2.1), Is (.bool R.2.2.2.2)])
      (fun i => [buf (slV R.2.1.length i.1) 25 tPg R.2.1, buf (slV R.2.2.1.length i.2) 25 tPg R.2.2.1]) := by
  have hcn := countN_le lines
  have hcb : clientB (cl : Nat) = true := by unfold clientB; simp; omega
  have hnode := node_ok ks cl (by omega)
  rw [hN] at hnode
  have hown := owned_ok nd.sg (countN lines) hcn
  have hSl := ownV_len nd.sg (countN lines)
  have hSn := ownV_nodup nd.sg (countN lines)
  obtain ⟨S, hS⟩ : ∃ S, ownV nd.sg (countN lines) = S := ⟨_, rfl⟩
  rw [hS] at hown hSl hSn hM0 hR0
  have hM := hM0
  have hR := hR0
  clear hM0 hR0 hN
  obtain ⟨Q, hQ⟩ : ∃ Q, srcV ks cnt S = Q := ⟨_, rfl⟩
  have hQs := src_sub (ks := ks) (cnt := cnt) hSn
  rw [hQ] at hQs
  refine Fn.enterN Try.func40 Try.ntmps40 rfl rfl ?_
  intro c hX
  refine JC_seq ?_
  refine JC_region ?_
  (refine JL_n rfl (op_box (Ev.rfl' rfl) cellsT) ?_; intro i2)
  refine JL_1 rfl (op_assign rfl) ?_
  refine JL_1 rfl (op_assign rfl) ?_
  refine JL_1 rfl (op_assign rfl) ?_
  refine JL_1 rfl (op_assign rfl) ?_
  refine JL_1 rfl (op_assign rfl) ?_
  refine JL_nil ?_
  refine JQ_then (JC_seq (JC_seq ?_))
  refine JC_freezeB hX (b := i2) replT ?_
  refine JC_set 2 (IsRef [Is (.int .i64 (cl : Nat)), Is (.int .i64 lines), Is (.int .i64 (cnt : Nat))]) rfl (SubL.fact memT) ?_
  refine JC_region ?_
  refine JL_1 rfl (by first | exact op_fieldPtr (k := 0) (Ev.rfl' rfl) rfl rfl rfl rfl | exact op_fieldRefN (k := 0) (Ev.rfl' rfl) rfl rfl rfl rfl nrmT) ?_
  refine JL_1 rfl (by first | exact op_loadRef (Ev.rfl' rfl) rfl rfl rfl | exact op_loadPtr (Ev.rfl' rfl) memT (by rfl) (by rfl) (by rfl)) ?_
  refine JL_1 rfl (op_call Try.call78 (isClient_ok _) ⟨evS, trivial⟩) ?_
  refine JL_1 rfl (op_not (Ev.rfl' rfl)) ?_
  refine JL_1 rfl (op_move rfl) ?_
  (first | refine JL_i0 rfl rfl rfl (fun hg => (by have hg0 := hg; (try simp at hg); first | exact op_fieldPtr (k := 1) evG rfl rfl rfl rfl | exact op_fieldRefN (k := 1) evG rfl rfl rfl rfl nrmT)) ?_ | refine JL_i rfl rfl rfl (fun hp hg => (by have hpg := Bool.and_eq_true_iff.2 ⟨hp, hg⟩; have hg0 := hg; (try simp at hg); first | exact op_fieldPtr (k := 1) evG rfl rfl rfl rfl | exact op_fieldRefN (k := 1) evG rfl rfl rfl rfl nrmT)) ?_)
  (first | refine JL_i0 rfl rfl rfl (fun hg => (by have hg0 := hg; (try simp at hg); first | exact op_loadRef evG rfl rfl rfl | exact op_loadPtr evG memT (by rfl) (by rfl) (by rfl))) ?_ | refine JL_i rfl rfl rfl (fun hp hg => (by have hpg := Bool.and_eq_true_iff.2 ⟨hp, hg⟩; have hg0 := hg; (try simp at hg); first | exact op_loadRef evG rfl rfl rfl | exact op_loadPtr evG memT (by rfl) (by rfl) (by rfl))) ?_)
  (first | refine JL_i0 rfl rfl rfl (fun hg => (by have hg0 := hg; (try simp at hg); exact op_call Try.call75 (isSize_ok _) ⟨evS, trivial⟩)) ?_ | refine JL_i rfl rfl rfl (fun hp hg => (by have hpg := Bool.and_eq_true_iff.2 ⟨hp, hg⟩; have hg0 := hg; (try simp at hg); exact op_call Try.call75 (isSize_ok _) ⟨evS, trivial⟩)) ?_)
  (first | refine JL_i0 rfl rfl rfl (fun hg => (by have hg0 := hg; (try simp at hg); exact op_not evG)) ?_ | refine JL_i rfl rfl rfl (fun hp hg => (by have hpg := Bool.and_eq_true_iff.2 ⟨hp, hg⟩; have hg0 := hg; (try simp at hg); exact op_not evG)) ?_)
  refine JL_1 rfl (op_or (Ev.rfl' rfl) rfl (fun h => by first | exact SubL.rfl' | exact SubL.iteT (by first | (rw [h]; rfl) | (simp_all; done)) SubL.rfl')) ?_
  refine JL_1 rfl (op_move rfl) ?_
  (first | refine JL_i0 rfl rfl rfl (fun hg => (by have hg0 := hg; (try simp at hg); first | exact op_fieldPtr (k := 2) evG rfl rfl rfl rfl | exact op_fieldRefN (k := 2) evG rfl rfl rfl rfl nrmT)) ?_ | refine JL_i rfl rfl rfl (fun hp hg => (by have hpg := Bool.and_eq_true_iff.2 ⟨hp, hg⟩; have hg0 := hg; (try simp at hg); first | exact op_fieldPtr (k := 2) evG rfl rfl rfl rfl | exact op_fieldRefN (k := 2) evG rfl rfl rfl rfl nrmT)) ?_)
  (first | refine JL_i0 rfl rfl rfl (fun hg => (by have hg0 := hg; (try simp at hg); first | exact op_loadRef evG rfl rfl rfl | exact op_loadPtr evG memT (by rfl) (by rfl) (by rfl))) ?_ | refine JL_i rfl rfl rfl (fun hp hg => (by have hpg := Bool.and_eq_true_iff.2 ⟨hp, hg⟩; have hg0 := hg; (try simp at hg); first | exact op_loadRef evG rfl rfl rfl | exact op_loadPtr evG memT (by rfl) (by rfl) (by rfl))) ?_)
  (first | refine JL_i0 rfl rfl rfl (fun hg => (by have hg0 := hg; (try simp at hg); exact op_lss evG evG)) ?_ | refine JL_i rfl rfl rfl (fun hp hg => (by have hpg := Bool.and_eq_true_iff.2 ⟨hp, hg⟩; have hg0 := hg; (try simp at hg); exact op_lss evG evG)) ?_)
  refine JL_1 rfl (op_or (Ev.rfl' rfl) rfl (fun h => by first | exact SubL.rfl' | exact SubL.iteT (by first | (rw [h]; rfl) | (simp_all; done)) SubL.rfl')) ?_
  refine JL_1 rfl (op_move rfl) ?_
  (first | refine JL_i0 rfl rfl rfl (fun hg => (by have hg0 := hg; (try simp at hg); first | exact op_fieldPtr (k := 2) evG rfl rfl rfl rfl | exact op_fieldRefN (k := 2) evG rfl rfl rfl rfl nrmT)) ?_ | refine JL_i rfl rfl rfl (fun hp hg => (by have hpg := Bool.and_eq_true_iff.2 ⟨hp, hg⟩; have hg0 := hg; (try simp at hg); first | exact op_fieldPtr (k := 2) evG rfl rfl rfl rfl | exact op_fieldRefN (k := 2) evG rfl rfl rfl rfl nrmT)) ?_)
  (first | refine JL_i0 rfl rfl rfl (fun hg => (by have hg0 := hg; (try simp at hg); first | exact op_loadRef evG rfl rfl rfl | exact op_loadPtr evG memT (by rfl) (by rfl) (by rfl))) ?_ | refine JL_i rfl rfl rfl (fun hp hg => (by have hpg := Bool.and_eq_true_iff.2 ⟨hp, hg⟩; have hg0 := hg; (try simp at hg); first | exact op_loadRef evG rfl rfl rfl | exact op_loadPtr evG memT (by rfl) (by rfl) (by rfl))) ?_)
  (first | refine JL_i0 rfl rfl rfl (fun hg => (by have hg0 := hg; (try simp at hg); exact op_gtr evG evG)) ?_ | refine JL_i rfl rfl rfl (fun hp hg => (by have hpg := Bool.and_eq_true_iff.2 ⟨hp, hg⟩; have hg0 := hg; (try simp at hg); exact op_gtr evG evG)) ?_)
  refine JL_1 rfl (op_or (Ev.rfl' rfl) rfl (fun h => by first | exact SubL.rfl' | exact SubL.iteT (by first | (rw [h]; rfl) | (simp_all; done)) SubL.rfl')) ?_
  refine JL_nil ?_
  refine JQ_then ?_
  refine JC_cond (Ev.rfl' rfl) (fun h1 => ?_) (fun h1 => ?_)
  · exact absurd h1 (by rw [hcb, hz0]; simp; omega)
  clear h1
  refine JC_skip (JQ_then (JC_seq ?_))
  refine JC_region ?_
  refine JL_1 rfl (op_move rfl) ?_
  refine JL_1 rfl (by first | exact op_fieldPtr (k := 0) (Ev.rfl' rfl) rfl rfl rfl rfl | exact op_fieldRefN (k := 0) (Ev.rfl' rfl) rfl rfl rfl rfl nrmT) ?_
  refine JL_1 rfl (by first | exact op_loadRef (Ev.rfl' rfl) rfl rfl rfl | exact op_loadPtr (Ev.rfl' rfl) memT (by rfl) (by rfl) (by rfl)) ?_
  refine JL_1 rfl (op_call Try.call80 (hnode) ⟨evS, ⟨evS, trivial⟩⟩) ?_
  refine JL_1 rfl (op_move rfl) ?_
  refine JL_1 rfl (op_extract (Ev.rfl' rfl) rfl) ?_
  refine JL_1 rfl (op_extract (Ev.rfl' rfl) rfl) ?_
  refine JL_1 rfl (op_extract (Ev.rfl' rfl) rfl) ?_
  refine JL_1 rfl (op_extract (Ev.rfl' rfl) rfl) ?_
  (refine JL_n rfl (op_allocN rfl nrmT rfl) ?_; intro i9)
  (refine JL_n rfl (op_allocN rfl nrmT rfl) ?_; intro i10)
  refine JL_s0 (op_storeN (Ev.rfl' rfl) (Ev.rfl' rfl) cellsT replT nrmT (by rfl) (by rfl) (by rfl)) ?_
  refine JL_s0 (op_storeN (Ev.rfl' rfl) (Ev.rfl' rfl) cellsT replT nrmT (by rfl) (by rfl) (by rfl)) ?_
  refine JL_1 rfl (op_assign rfl) ?_
  refine JL_1 rfl (op_assign rfl) ?_
  refine JL_nil ?_
  refine JQ_then (JC_seq (JC_seq ?_))
  refine JC_region ?_
  refine JL_1 rfl (op_move rfl) ?_
  refine JL_1 rfl (op_not (Ev.rfl' rfl)) ?_
  refine JL_nil ?_
  refine JQ_then ?_
  refine JC_cond (Ev.rfl' rfl) (fun h4 => ?_) (fun h4 => ?_)
  · exact absurd h4 (by simp)
  refine JC_skip (JQ_then (JC_seq (JC_seq ?_)))
  refine JC_region ?_
  refine JL_1 rfl (op_move rfl) ?_
  refine JL_1 rfl (op_neq (Ev.rfl' rfl) (Ev.rfl' rfl)) ?_
  refine JL_nil ?_
  refine JQ_then ?_
  refine JC_cond (Ev.rfl' rfl) (fun h6 => ?_) (fun h6 => ?_)
  · exact absurd h6 (by simp)
  refine JC_skip (JQ_then (JC_seq ?_))
  refine JC_dr rfl (by kernel_rfl) ?_
  refine JD_stretch 7 (by kernel_rfl) ?_
  refine JW_1 (by first | exact op_fieldPtr (k := 2) (Ev.rfl' rfl) rfl rfl rfl rfl | exact op_fieldRefN (k := 2) (Ev.rfl' rfl) rfl rfl rfl rfl nrmT) ?_
  refine JW_1 (by first | exact op_loadRef (Ev.rfl' rfl) rfl rfl rfl | exact op_loadPtr (Ev.rfl' rfl) memT (by rfl) (by rfl) (by rfl)) ?_
  refine JW_1 (by first | exact op_fieldPtr (k := 1) (Ev.rfl' rfl) rfl rfl rfl rfl | exact op_fieldRefN (k := 1) (Ev.rfl' rfl) rfl rfl rfl rfl nrmT) ?_
  refine JW_1 (by first | exact op_loadRef (Ev.rfl' rfl) rfl rfl rfl | exact op_loadPtr (Ev.rfl' rfl) memT (by rfl) (by rfl) (by rfl)) ?_
  refine JW_1 (op_call Try.call29 (CountN_ok _) ⟨evS, trivial⟩) ?_
  refine JW_1 (op_call Try.call82 (hown) ⟨evS, ⟨evS, trivial⟩⟩) ?_
  refine JW_1 (op_assign rfl) ?_
  refine ⟨rfl, ?_⟩
  refine JD_end ?_
  refine JQ_then (JC_seq (JC_seq ?_))
  refine JC_region ?_
  refine JL_1 rfl (op_move rfl) ?_
  refine JL_1 rfl (op_move rfl) ?_
  refine JL_1 rfl (by first | ((refine op_call Try.call81 (headerLines_ok _ ?_) ⟨evS, trivial⟩); all_goals (first | omega))) ?_
  refine JL_1 rfl (op_call Try.call79 (missNil_ok _ _ hM) ⟨evS, ⟨evS, trivial⟩⟩) ?_
  refine JL_1 rfl (op_assign rfl) ?_
  refine JL_nil ?_
  refine JQ_then (JC_seq ?_)
  refine JC_region ?_
  refine JL_1 rfl (op_move rfl) ?_
  refine JL_1 rfl (by first | exact op_len (Ev.rfl' rfl) rfl | exact op_lenLit (Ev.rfl' rfl) rfl) ?_
  refine JL_1 rfl (op_gtr (Ev.rfl' rfl) (Ev.rfl' rfl)) ?_
  refine JL_nil ?_
  refine JQ_then ?_
  refine JC_cond (Ev.rfl' rfl) (fun h10 => ?_) (fun h10 => ?_)
  · exact absurd h10 (by simp)
  refine JC_skip (JQ_then (JC_seq ?_))
  refine JC_region ?_
  (refine JL_n rfl (op_makeMap IsPg) ?_; intro i92)
  (refine JL_n rfl (op_makeMap IsHd) ?_; intro i93)
  refine JL_1 rfl (op_assign rfl) ?_
  refine JL_1 rfl (op_assign rfl) ?_
  refine JL_nil ?_
  refine JQ_then (JC_seq (JC_seq ?_))
  refine JC_region ?_
  refine JL_1 rfl (op_move rfl) ?_
  refine JL_1 rfl (by first | exact op_len (Ev.rfl' rfl) rfl | exact op_lenLit (Ev.rfl' rfl) rfl) ?_
  refine JL_1 rfl (op_move rfl) ?_
  refine JL_nil ?_
  refine JQ_then (JC_block ?_)
  refine JC_loopP (fun k : Nat => k ≤ S.length ∧ aloH ks cl cnt S (S.drop k) = R) (fun k => [(1, IsSl tPg ks), (2, IsRef [Is (.int .i64 (cl : Nat)), Is (.int .i64 lines), Is (.int .i64 (cnt : Nat))]), (4, Is (.slice none 0 0)), (5, Is (.slice none 0 0)), (6, Is (.slice none 0 0)), (12, IsSl tI64 S), (13, Is (.map (some i92))), (14, Is (.map (some i93))), (94, IsSl tI64 S), (95, Is (.int .i64 (S.length : Nat))), (96, Is (.int .i64 (k : Nat)))]) (fun k => [mp i92 IsPg ((S.take k).map fun s => (s, (headV ks s).1)), mp i93 IsHd ((S.take k).map fun s => (s, hdS' ks s))]) (fun k => S.length - k) 0 ⟨Nat.zero_le _, hR⟩ esubT lessT ?_
  rintro k ⟨hk, hs⟩
  refine JC_seq ?_
  refine JC_region ?_
  refine JL_1 rfl (op_lss (Ev.rfl' rfl) (Ev.rfl' rfl)) ?_
  refine JL_nil ?_
  refine JQ_then (JC_seq ?_)
  refine JC_cond (Ev.rfl' rfl) (fun h14 => ?_) (fun h14 => ?_)
  · have hlt : k < S.length := by have := of_decide_eq_true h14; omega
    clear h14
    obtain ⟨s, hz⟩ : ∃ z, S[k]? = some z := ⟨S[k], List.getElem?_eq_getElem hlt⟩
    have hp1 := mput_map (f := fun s => (headV ks s).1) hz hSn
    have hp2 := mput_map (f := fun s => hdS' ks s) hz hSn
    rw [drop_at hz] at hs
    refine JC_skip (JQ_then (JC_seq (JC_block (JC_seq ?_))))
    refine JC_region ?_
    refine JL_1 rfl (by first | exact op_index (j := _) (Ev.rfl' rfl) (Ev.rfl' rfl) rfl rfl (by first | rfl | omega) hz | exact op_index (j := _) (Ev.rfl' rfl) (Ev.rfl' rfl) rfl rfl (by first | rfl | omega) (by assumption)) ?_
    refine JL_1 rfl (by first | exact op_loadRef (Ev.rfl' rfl) rfl rfl rfl | exact op_loadPtr (Ev.rfl' rfl) memT (by rfl) (by rfl) (by rfl)) ?_
    refine JL_1 rfl (op_assign rfl) ?_
    refine JL_nil ?_
    refine JQ_then (JC_seq ?_)
    refine JC_region ?_
    refine JL_1 rfl (op_move rfl) ?_
    refine JL_1 rfl (op_move rfl) ?_
    refine JL_1 rfl (op_call Try.call84 (header_ok _ _) ⟨evS, ⟨evS, trivial⟩⟩) ?_
    refine JL_1 rfl (op_move rfl) ?_
    refine JL_1 rfl (op_extract (Ev.rfl' rfl) rfl) ?_
    refine JL_1 rfl (op_extract (Ev.rfl' rfl) rfl) ?_
    refine JL_1 rfl (op_extract (Ev.rfl' rfl) rfl) ?_
    refine JL_1 rfl (op_extract (Ev.rfl' rfl) rfl) ?_
    (refine JL_n rfl (op_allocN rfl nrmT rfl) ?_; intro i17)
    (refine JL_n rfl (op_allocN rfl nrmT rfl) ?_; intro i18)
    refine JL_s0 (op_storeN (Ev.rfl' rfl) (Ev.rfl' rfl) cellsT replT nrmT (by rfl) (by rfl) (by rfl)) ?_
    refine JL_s0 (op_storeN (Ev.rfl' rfl) (Ev.rfl' rfl) cellsT replT nrmT (by rfl) (by rfl) (by rfl)) ?_
    refine JL_1 rfl (op_assign rfl) ?_
    refine JL_1 rfl (op_assign rfl) ?_
    refine JL_nil ?_
    refine JQ_then (JC_seq (JC_block (JC_seq ?_)))
    refine JC_region ?_
    refine JL_1 rfl (op_move rfl) ?_
    refine JL_1 rfl (op_neq (Ev.rfl' rfl) (Ev.rfl' rfl)) ?_
    refine JL_1 rfl (op_assign rfl) ?_
    refine JL_nil ?_
    refine JQ_then ?_
    refine JC_cond (Ev.rfl' rfl) (fun h17 => ?_) (fun h17 => ?_)
    · have g : (headV ks s).2.2.2 ≠ 0 := by simpa using h17
      have e : R = errA (headV ks s).2.2.2 := by rw [← hs]; unfold aloH hdE; rw [if_pos g]
      subst e
      refine JC_seq ?_
      refine JC_region ?_
      refine JL_1 rfl (op_move rfl) ?_
      refine JL_1 rfl (op_assign rfl) ?_
      refine JL_1 rfl (op_assign rfl) ?_
      refine JL_1 rfl (op_assign rfl) ?_
      refine JL_1 rfl (op_assign rfl) ?_
      refine JL_1 rfl (op_assign rfl) ?_
      refine JL_nil ?_
      refine JQ_then (JC_ret (JQ_block_ret (JQ_then_ret (JQ_block_ret (JQ_then_ret (JQ_then_ret (JQ_block_ret (JQ_then_ret ?_))))))))
      refine JQ_buf0 25 tPg ?_
      refine JQ_buf0 25 tPg ?_
      exact JQ_retP (Bs := [IsSl tI64 [], Is (.slice none 0 0), Is (.slice none 0 0), Is (.int .i64 (headV ks s).2.2.2), Is (.bool true)]) Try.results40 ⟨⟨_, rfl, subT⟩, ⟨⟨_, rfl, subT⟩, ⟨⟨_, rfl, subT⟩, ⟨⟨_, rfl, subT⟩, ⟨⟨_, rfl, subT⟩, trivial⟩⟩⟩⟩⟩ ((none, 0), (none, 0)) SubL.rfl' lessT
    have g : ¬ (headV ks s).2.2.2 ≠ 0 := by simpa using h17
    clear h17
    refine JC_seq ?_
    refine JC_region ?_
    refine JL_1 rfl (by first | exact op_fieldPtr (k := 0) (Ev.rfl' rfl) rfl rfl rfl rfl | exact op_fieldRefN (k := 0) (Ev.rfl' rfl) rfl rfl rfl rfl nrmT) ?_
    refine JL_1 rfl (by first | exact op_loadRef (Ev.rfl' rfl) rfl rfl rfl | exact op_loadPtr (Ev.rfl' rfl) memT (by rfl) (by rfl) (by rfl)) ?_
    refine JL_1 rfl (by first | exact op_fieldPtr (k := 0) (Ev.rfl' rfl) rfl rfl rfl rfl | exact op_fieldRefN (k := 0) (Ev.rfl' rfl) rfl rfl rfl rfl nrmT) ?_
    refine JL_1 rfl (by first | exact op_loadRef (Ev.rfl' rfl) rfl rfl rfl | exact op_loadPtr (Ev.rfl' rfl) memT (by rfl) (by rfl) (by rfl)) ?_
    refine JL_1 rfl (op_neq (Ev.rfl' rfl) (Ev.rfl' rfl)) ?_
    refine JL_1 rfl (op_assign rfl) ?_
    refine JL_nil ?_
    refine JQ_then ?_
    refine JC_cond (Ev.rfl' rfl) (fun h19 => ?_) (fun h19 => ?_)
    · have g2 : (hdS' ks s).owner ≠ (cl : Int) := by unfold hdS'; simpa using h19
      have e : R = errA 11 := by rw [← hs]; unfold aloH hdE; rw [if_neg g, if_pos g2]
      subst e
      refine JC_seq ?_
      refine JC_region ?_
      refine JL_1 rfl (op_assign rfl) ?_
      refine JL_1 rfl (op_assign rfl) ?_
      refine JL_1 rfl (op_assign rfl) ?_
      refine JL_1 rfl (op_assign rfl) ?_
      refine JL_1 rfl (op_assign rfl) ?_
      refine JL_nil ?_
      refine JQ_then (JC_ret (JQ_block_ret (JQ_then_ret (JQ_block_ret (JQ_then_ret (JQ_then_ret (JQ_block_ret (JQ_then_ret ?_))))))))
      refine JQ_buf0 25 tPg ?_
      refine JQ_buf0 25 tPg ?_
      exact JQ_retP (Bs := [IsSl tI64 [], Is (.slice none 0 0), Is (.slice none 0 0), Is (.int .i64 11), Is (.bool true)]) Try.results40 ⟨⟨_, rfl, subT⟩, ⟨⟨_, rfl, subT⟩, ⟨⟨_, rfl, subT⟩, ⟨⟨_, rfl, subT⟩, ⟨⟨_, rfl, subT⟩, trivial⟩⟩⟩⟩⟩ ((none, 0), (none, 0)) SubL.rfl' lessT
    have g2 : ¬ (hdS' ks s).owner ≠ (cl : Int) := by unfold hdS'; simpa using h19
    clear h19
    have hs' : aloH ks cl cnt S (S.drop (k + 1)) = R := by
      rw [← hs]
      conv => rhs; unfold aloH hdE
      rw [if_neg g, if_neg g2]
      rfl
    refine JC_skip (JQ_block (JQ_then ?_))
    refine JC_dr rfl (by kernel_rfl) ?_
    refine JD_front (it := mp i93 IsHd _) (by repeat (first | exact Drop1.here _ _ | apply Drop1.next)) ?_
    refine JD_front (it := mp i92 IsPg _) (by repeat (first | exact Drop1.here _ _ | apply Drop1.next)) ?_
    refine JD_stretchG (its := [_, _]) 8 (by kernel_rfl) ?_
    refine JW_1 (op_move rfl) ?_
    refine JW_1 (op_move rfl) ?_
    refine JW_1 (op_move rfl) ?_
    refine JW_1 (op_move rfl) ?_
    refine JW_1 (by first | exact op_loadRefsN (n := 9) (Ev.rfl' rfl) rfl rfl rfl (by rfl) nrmT | exact op_loadPtrsN (n := 9) (Ev.rfl' rfl) memT (by rfl) (by rfl) (by rfl) (by rfl) nrmT) ?_
    refine JW_1 (by first | exact op_loadRefsN (n := 2) (Ev.rfl' rfl) rfl rfl rfl (by rfl) nrmT | exact op_loadPtrsN (n := 2) (Ev.rfl' rfl) memT (by rfl) (by rfl) (by rfl) (by rfl) nrmT) ?_
    refine JW_ghost (s := 254) rfl rfl rfl (by kernel_rfl) (fun c' => by exact op_mapPut (V := IsPg) (v := (headV ks s).1) (Ev.rfl' rfl) (Ev.rfl' rfl) evS replT rfl rfl) ?_
    refine JW_ghost (s := 255) rfl rfl rfl (by kernel_rfl) (fun c' => by exact op_mapPut (V := IsHd) (v := hdS' ks s) (Ev.rfl' rfl) (Ev.rfl' rfl) evS replT rfl rfl) ?_
    refine ⟨rfl, ?_⟩
    intro _ _
    refine JD_end ?_
    refine JQ_block (JQ_then ?_)
    refine JC_region ?_
    refine JL_1 rfl (op_add (Ev.rfl' rfl) (Ev.rfl' rfl) wrapT) ?_
    refine JL_1 rfl (op_move rfl) ?_
    refine JL_nil ?_
    rw [hp1, hp2]
    exact JQ_roundP (k + 1) ⟨by omega, hs'⟩ (by omega) esubT lessT
  have hke : k = S.length := by have := of_decide_eq_false h14; omega
  subst hke
  clear h14
  rw [List.drop_length] at hs
  have hs2 : excA ks cnt (outS ks cnt Q 0 []) = R := by rw [← hQ]; exact hs
  clear hs hR
  rw [List.take_length]
  refine JC_exit (JQ_then_exit (JQ_then_exit (JQ_hit (JQ_then (JC_seq ?_)))))
  refine JC_region ?_
  refine JL_1 rfl (op_move rfl) ?_
  refine JL_1 rfl (op_assign rfl) ?_
  refine JL_nil ?_
  refine JQ_then (JC_seq (JC_seq ?_))
  refine JC_region ?_
  refine JL_1 rfl (op_move rfl) ?_
  refine JL_1 rfl (by first | exact op_len (Ev.rfl' rfl) rfl | exact op_lenLit (Ev.rfl' rfl) rfl) ?_
  refine JL_1 rfl (op_move rfl) ?_
  refine JL_nil ?_
  refine JQ_then ?_
  refine JC_cutT (fun _ : Unit => True) (fun _ => [(1, IsSl tPg ks), (2, IsRef [Is (.int .i64 (cl : Nat)), Is (.int .i64 lines), Is (.int .i64 (cnt : Nat))]), (4, Is (.slice none 0 0)), (5, Is (.slice none 0 0)), (6, Is (.slice none 0 0)), (13, Is (.map (some i92))), (14, Is (.map (some i93))), (21, IsSl tI64 Q)]) (fun _ => [mp i92 IsPg (S.map fun s => (s, (headV ks s).1)), mp i93 IsHd (S.map fun s => (s, hdS' ks s))]) ?_ ?_
  rotate_left
  focus
    refine JC_block ?_
    refine JC_loopP (fun k : Nat => k ≤ S.length ∧ srcR ks cnt S (S.drop k) = Q) (fun k => [(1, IsSl tPg ks), (2, IsRef [Is (.int .i64 (cl : Nat)), Is (.int .i64 lines), Is (.int .i64 (cnt : Nat))]), (4, Is (.slice none 0 0)), (5, Is (.slice none 0 0)), (6, Is (.slice none 0 0)), (13, Is (.map (some i92))), (14, Is (.map (some i93))), (21, IsSl tI64 S), (126, IsSl tI64 S), (127, Is (.int .i64 (S.length : Nat))), (128, Is (.int .i64 (k : Nat)))]) (fun _ => [mp i92 IsPg (S.map fun s => (s, (headV ks s).1)), mp i93 IsHd (S.map fun s => (s, hdS' ks s))]) (fun k => S.length - k) 0 ⟨Nat.zero_le _, hQ⟩ esubT lessT ?_
    rintro k ⟨hk, hsr⟩
    refine JC_seq ?_
    refine JC_region ?_
    refine JL_1 rfl (op_lss (Ev.rfl' rfl) (Ev.rfl' rfl)) ?_
    refine JL_nil ?_
    refine JQ_then (JC_seq ?_)
    refine JC_cond (Ev.rfl' rfl) (fun h25 => ?_) (fun h25 => ?_)
    · have hlt : k < S.length := by have := of_decide_eq_true h25; omega
      clear h25
      obtain ⟨s, hz⟩ : ∃ z, S[k]? = some z := ⟨S[k], List.getElem?_eq_getElem hlt⟩
      have hmg := mget_map (f := fun s => hdS' ks s) (List.mem_of_getElem? hz)
      rw [drop_at hz] at hsr
      refine JC_skip (JQ_then (JC_seq (JC_block (JC_seq ?_))))
      refine JC_region ?_
      refine JL_1 rfl (by first | exact op_index (j := _) (Ev.rfl' rfl) (Ev.rfl' rfl) rfl rfl (by first | rfl | omega) hz | exact op_index (j := _) (Ev.rfl' rfl) (Ev.rfl' rfl) rfl rfl (by first | rfl | omega) (by assumption)) ?_
      refine JL_1 rfl (by first | exact op_loadRef (Ev.rfl' rfl) rfl rfl rfl | exact op_loadPtr (Ev.rfl' rfl) memT (by rfl) (by rfl) (by rfl)) ?_
      refine JL_1 rfl (op_assign rfl) ?_
      refine JL_nil ?_
      refine JQ_then (JC_seq ?_)
      refine JC_dr rfl (by kernel_rfl) ?_
      refine JD_stretch 7 (by kernel_rfl) ?_
      refine JW_1 (op_move rfl) ?_
      refine JW_1 (op_move rfl) ?_
      refine JW_1 (op_lookupS hmg (Ev.rfl' rfl) memT (Ev.rfl' rfl) rfl rfl rfl) ?_
      refine JW_1 (op_call Try.call85 (vacant_ok _) ⟨evS, trivial⟩) ?_
      refine JW_1 (by first | exact op_fieldPtr (k := 2) (Ev.rfl' rfl) rfl rfl rfl rfl | exact op_fieldRefN (k := 2) (Ev.rfl' rfl) rfl rfl rfl rfl nrmT) ?_
      refine JW_1 (by first | exact op_loadRef (Ev.rfl' rfl) rfl rfl rfl | exact op_loadPtr (Ev.rfl' rfl) memT (by rfl) (by rfl) (by rfl)) ?_
      refine JW_1 (op_geq (Ev.rfl' rfl) (Ev.rfl' rfl)) ?_
      refine ⟨rfl, ?_⟩
      refine JD_end ?_
      refine JQ_then ?_
      refine JC_cond (Ev.rfl' rfl) (fun h27 => ?_) (fun h27 => ?_)
      · have e : Q = [s] := by
          rw [← hsr]; unfold srcR
          simp only [List.find?_cons, h27]
        refine JC_seq ?_
        refine JC_region ?_
        refine JL_1 rfl (op_move rfl) ?_
        refine JL_1 rfl (op_buildSlice (size := 1) (qs := [(0, _)]) rfl rfl rfl ⟨⟨rfl, _, (Ev.rfl' rfl), cellsT⟩, trivial⟩ (by rfl) (by rfl)) ?_
        refine JL_1 rfl (op_assign rfl) ?_
        refine JL_nil ?_
        refine JQ_then (JC_exit (JQ_block_miss rfl (JQ_then_exit (JQ_then_exit (JQ_hit ?_)))))
        subst e
        exact JQ_meetP () trivial esubT lessT
      have e : srcR ks cnt S (S.drop (k + 1)) = Q := by
        rw [← hsr]; unfold srcR
        simp only [List.find?_cons, h27]
      clear h27
      refine JC_skip (JQ_block (JQ_then ?_))
      refine JC_region ?_
      refine JL_1 rfl (op_add (Ev.rfl' rfl) (Ev.rfl' rfl) wrapT) ?_
      refine JL_1 rfl (op_move rfl) ?_
      refine JL_nil ?_
      exact JQ_roundP (k + 1) ⟨by omega, e⟩ (by omega) esubT lessT
    have hke : k = S.length := by have := of_decide_eq_false h25; omega
    subst hke
    rw [List.drop_length] at hsr
    have e : Q = S := hsr.symm
    refine JC_exit (JQ_then_exit (JQ_then_exit (JQ_hit ?_)))
    subst e
    exact JQ_meetP () trivial esubT lessT
  rintro _ _
  have hQl := src_len (ks := ks) (cnt := cnt) (S := S) (by omega)
  rw [hQ] at hQl
  refine JC_seq ?_
  refine JC_region ?_
  (refine JL_n rfl (op_makeMap IsHd) ?_; intro i142)
  refine JL_1 rfl (op_assign rfl) ?_
  refine JL_1 rfl (op_assign rfl) ?_
  refine JL_nil ?_
  refine JQ_then (JC_seq (JC_seq ?_))
  refine JC_region ?_
  refine JL_1 rfl (op_move rfl) ?_
  refine JL_1 rfl (by first | exact op_len (Ev.rfl' rfl) rfl | exact op_lenLit (Ev.rfl' rfl) rfl) ?_
  refine JL_1 rfl (op_move rfl) ?_
  refine JL_nil ?_
  refine JQ_then (JC_block ?_)
  refine JC_buf0 3 tI64 ?_
  refine JC_buf0 25 tPg ?_
  refine JC_loopP (fun z : (Nat × Nat × Pk) × (Option Addr × Nat) × (Option Addr × Nat) => z.1.1 ≤ Q.length ∧ excA ks cnt (outS ks cnt (Q.drop z.1.1) z.1.2.1 z.1.2.2) = R ∧ z.1.2.2.map Prod.fst = Q.take z.1.1 ∧ z.1.2.1 = totP z.1.2.2 ∧ z.1.2.1 ≤ cnt) (fun z => [(1, IsSl tPg ks), (2, IsRef [Is (.int .i64 (cl : Nat)), Is (.int .i64 lines), Is (.int .i64 (cnt : Nat))]), (4, Is (slV (needP ks z.1.2.2).length z.2.1)), (5, Is (slV (freP ks z.1.2.2).length z.2.2)), (6, Is (.slice none 0 0)), (13, Is (.map (some i92))), (14, Is (.map (some i93))), (21, IsSl tI64 Q), (24, Is (.int .i64 (z.1.2.1 : Nat))), (25, Is (.map (some i142))), (143, IsSl tI64 Q), (144, Is (.int .i64 (Q.length : Nat))), (145, Is (.int .i64 (z.1.1 : Nat)))]) (fun z => [mp i92 IsPg (S.map fun s => (s, (headV ks s).1)), mp i93 IsHd (S.map fun s => (s, hdS' ks s)), mp i142 IsHd (chgP ks z.1.2.2), buf (slV (needP ks z.1.2.2).length z.2.1) 3 tI64 (needP ks z.1.2.2), buf (slV (freP ks z.1.2.2).length z.2.2) 25 tPg (freP ks z.1.2.2)]) (fun z => Q.length - z.1.1) ((0, 0, []), (none, 0), (none, 0)) ⟨Nat.zero_le _, hs2, rfl, rfl, Nat.zero_le _⟩ esubT lessT ?_
  rintro ⟨⟨k, ch, ps⟩, b1, b2⟩ ⟨hk, hs, hmp, hch, hcl⟩
  dsimp only at hk hs hmp hch hcl ⊢
  refine JC_seq ?_
  refine JC_region ?_
  refine JL_1 rfl (op_lss (Ev.rfl' rfl) (Ev.rfl' rfl)) ?_
  refine JL_nil ?_
  refine JQ_then (JC_seq ?_)
  refine JC_cond (Ev.rfl' rfl) (fun h32 => ?_) (fun h32 => ?_)
  · have hlt : k < Q.length := by have := of_decide_eq_true h32; omega
    clear h32
    obtain ⟨s, hz⟩ : ∃ z, Q[k]? = some z := ⟨Q[k], List.getElem?_eq_getElem hlt⟩
    have hmg := mget_map (f := fun s => hdS' ks s) (hQs.2 s (List.mem_of_getElem? hz))
    have hsn : s ∉ ps.map Prod.fst := by rw [hmp]; exact not_in_take hz hQs.1
    have hlv := line_rng s
    rw [drop_at hz, outS_step] at hs
    rw [← need_nil ks ps s, ← fre_nil ks ps s, ← chg_nil ks ps s]
    refine JC_skip (JQ_then (JC_seq (JC_block (JC_seq ?_))))
    refine JC_region ?_
    refine JL_1 rfl (by first | exact op_index (j := _) (Ev.rfl' rfl) (Ev.rfl' rfl) rfl rfl (by first | rfl | omega) hz | exact op_index (j := _) (Ev.rfl' rfl) (Ev.rfl' rfl) rfl rfl (by first | rfl | omega) (by assumption)) ?_
    refine JL_1 rfl (by first | exact op_loadRef (Ev.rfl' rfl) rfl rfl rfl | exact op_loadPtr (Ev.rfl' rfl) memT (by rfl) (by rfl) (by rfl)) ?_
    refine JL_1 rfl (op_assign rfl) ?_
    refine JL_nil ?_
    refine JQ_then (JC_seq ?_)
    refine JC_region ?_
    refine JL_1 rfl (op_move rfl) ?_
    refine JL_1 rfl (op_move rfl) ?_
    refine JL_1 rfl (op_lookupS hmg (Ev.rfl' rfl) memT (Ev.rfl' rfl) rfl rfl rfl) ?_
    (refine JL_n rfl (op_allocN rfl nrmT rfl) ?_; intro i28)
    refine JL_s0 (op_storeN (Ev.rfl' rfl) (Ev.rfl' rfl) cellsT replT nrmT (by rfl) (by rfl) (by rfl)) ?_
    refine JL_nil ?_
    refine JQ_then (JC_seq ?_)
    refine JC_region ?_
    refine JL_1 rfl (op_assign rfl) ?_
    refine JL_nil ?_
    refine JQ_then (JC_block ?_)
    refine JC_loopP (fun z : (Nat × Nat × List Nat) × (Option Addr × Nat) × (Option Addr × Nat) => (1 ≤ z.1.1 ∧ z.1.1 ≤ 16) ∧ innX ks cnt s (Q.drop (k + 1)) ch ps (inn ks s cnt (16 - z.1.1) z.1.1 z.1.2.1 (orb (hdS' ks s).used z.1.2.2) z.1.2.2) = R ∧ z.1.2.1 = ch + z.1.2.2.length ∧ z.1.2.1 ≤ cnt) (fun z => [(1, IsSl tPg ks), (2, IsRef [Is (.int .i64 (cl : Nat)), Is (.int .i64 lines), Is (.int .i64 (cnt : Nat))]), (4, Is (slV (needP ks (ps ++ [(s, z.1.2.2)])).length z.2.1)), (5, Is (slV (freP ks (ps ++ [(s, z.1.2.2)])).length z.2.2)), (6, Is (.slice none 0 0)), (13, Is (.map (some i92))), (14, Is (.map (some i93))), (21, IsSl tI64 Q), (24, Is (.int .i64 (z.1.2.1 : Nat))), (25, Is (.map (some i142))), (27, Is (.int .i64 s)), (28, Is (.pointer (some ⟨i28, 0, none⟩))), (29, Is (.int .i64 (z.1.1 : Nat))), (143, IsSl tI64 Q), (144, Is (.int .i64 (Q.length : Nat))), (145, Is (.int .i64 (k : Nat)))]) (fun z => [mp i92 IsPg (S.map fun s => (s, (headV ks s).1)), mp i93 IsHd (S.map fun s => (s, hdS' ks s)), mp i142 IsHd (chgP ks (ps ++ [(s, z.1.2.2)])), buf (slV (needP ks (ps ++ [(s, z.1.2.2)])).length z.2.1) 3 tI64 (needP ks (ps ++ [(s, z.1.2.2)])), buf (slV (freP ks (ps ++ [(s, z.1.2.2)])).length z.2.2) 25 tPg (freP ks (ps ++ [(s, z.1.2.2)])), blk i28 28 [Is (.int .i64 (hdS' ks s).owner), Is (.int .u32 (UV (orb (hdS' ks s).used z.1.2.2)))]]) (fun z => 16 - z.1.1) ((1, ch, []), b1, b2) ⟨⟨by dsimp only; omega, by dsimp only; omega⟩, hs, rfl, hcl⟩ esubT lessT ?_
    rintro ⟨⟨i, cj, q⟩, a1, a2⟩ ⟨⟨hi1, hi2⟩, hq, hcj, hcjl⟩
    dsimp only at hi1 hi2 hq hcj hcjl ⊢
    have htot := tot_snoc ps s q
    have hnl := need_le ks (ps ++ [(s, q)])
    have hfl := fre_le ks (ps ++ [(s, q)])
    refine JC_seq (JC_seq ?_)
    refine JC_region ?_
    refine JL_1 rfl (op_move rfl) ?_
    refine JL_1 rfl (op_lss (Ev.rfl' rfl) (Ev.rfl' rfl)) ?_
    refine JL_1 rfl (op_move rfl) ?_
    (first | refine JL_i0 rfl rfl rfl (fun hg => (by have hg0 := hg; (try simp at hg); first | exact op_moveE (Ev.sub rfl (SubL.iteT (by first | assumption | (simp; done) | (simp; omega) | (simp_all; done)) SubL.rfl')) | exact op_moveE (Ev.rfl' rfl))) ?_ | refine JL_i rfl rfl rfl (fun hp hg => (by have hpg := Bool.and_eq_true_iff.2 ⟨hp, hg⟩; have hg0 := hg; (try simp at hg); first | exact op_moveE (Ev.sub rfl (SubL.iteT (by first | assumption | (simp; done) | (simp; omega) | (simp_all; done)) SubL.rfl')) | exact op_moveE (Ev.rfl' rfl))) ?_)
    (first | refine JL_i0 rfl rfl rfl (fun hg => (by have hg0 := hg; (try simp at hg); first | exact op_fieldPtr (k := 2) evG rfl rfl rfl rfl | exact op_fieldRefN (k := 2) evG rfl rfl rfl rfl nrmT)) ?_ | refine JL_i rfl rfl rfl (fun hp hg => (by have hpg := Bool.and_eq_true_iff.2 ⟨hp, hg⟩; have hg0 := hg; (try simp at hg); first | exact op_fieldPtr (k := 2) evG rfl rfl rfl rfl | exact op_fieldRefN (k := 2) evG rfl rfl rfl rfl nrmT)) ?_)
    (first | refine JL_i0 rfl rfl rfl (fun hg => (by have hg0 := hg; (try simp at hg); first | exact op_loadRef evG rfl rfl rfl | exact op_loadPtr evG memT (by rfl) (by rfl) (by rfl))) ?_ | refine JL_i rfl rfl rfl (fun hp hg => (by have hpg := Bool.and_eq_true_iff.2 ⟨hp, hg⟩; have hg0 := hg; (try simp at hg); first | exact op_loadRef evG rfl rfl rfl | exact op_loadPtr evG memT (by rfl) (by rfl) (by rfl))) ?_)
    (first | refine JL_i0 rfl rfl rfl (fun hg => (by have hg0 := hg; (try simp at hg); exact op_lss evG evG)) ?_ | refine JL_i rfl rfl rfl (fun hp hg => (by have hpg := Bool.and_eq_true_iff.2 ⟨hp, hg⟩; have hg0 := hg; (try simp at hg); exact op_lss evG evG)) ?_)
    refine JL_1 rfl (op_and (Ev.rfl' rfl) rfl (fun h => by first | exact SubL.rfl' | exact SubL.iteT (by first | (rw [h]; rfl) | (simp_all; done)) SubL.rfl')) ?_
    refine JL_nil ?_
    refine JQ_then ?_
    refine JC_cond (Ev.rfl' rfl) (fun h36 => ?_) (fun h36 => ?_)
    · have hi : i < 16 ∧ cj < cnt := by simp at h36; omega
      clear h36
      rw [inn_step hi.1 hi.2] at hq
      refine JC_skip (JQ_then (JC_seq (JC_block (JC_seq (JC_seq ?_)))))
      refine JC_region ?_
      refine JL_1 rfl (by first | exact op_fieldPtr (k := 1) (Ev.rfl' rfl) rfl rfl rfl rfl | exact op_fieldRefN (k := 1) (Ev.rfl' rfl) rfl rfl rfl rfl nrmT) ?_
      refine JL_1 rfl (by first | exact op_loadRef (Ev.rfl' rfl) rfl rfl rfl | exact op_loadPtr (Ev.rfl' rfl) memT (by rfl) (by rfl) (by rfl)) ?_
      refine JL_1 rfl (op_move rfl) ?_
      refine JL_1 rfl (op_conv (Ev.rfl' rfl) rfl rfl convT) ?_
      refine JL_1 rfl (by first | exact op_shrU32 (k := i) ev32 (Ev.rfl' rfl) (by first | omega | exact UV_nonneg _) idxT | exact op_shr (Ev.rfl' rfl) (Ev.rfl' rfl) (by first | omega | exact UV_nonneg _) rfl) ?_
      refine JL_1 rfl (by first | exact op_bits ev32 ev32 (by simp) (and_u32 _ _) | exact op_bits (Ev.rfl' rfl) (Ev.rfl' rfl) (by simp) rfl) ?_
      refine JL_1 rfl (op_eql (Ev.rfl' rfl) (Ev.rfl' rfl)) ?_
      refine JL_nil ?_
      refine JQ_then ?_
      refine JC_cond (Ev.rfl' rfl) (fun h38 => ?_) (fun h38 => ?_)
      · have g : bitB (orb (hdS' ks s).used q) i = true := h38
        rw [if_pos g] at hq
        have hsk : True := trivial
        clear h38
        refine JC_exit (JQ_then_exit (JQ_hit (JQ_then ?_)))
        refine JC_region ?_
        refine JL_1 rfl (op_move rfl) ?_
        refine JL_1 rfl (op_add (Ev.rfl' rfl) (Ev.rfl' rfl) wrapT) ?_
        refine JL_1 rfl (op_assign rfl) ?_
        refine JL_nil ?_
        first
          | (have := hsk; exact JQ_roundP ((i + 1, cj, q), a1, a2) ⟨⟨by dsimp only; omega, by dsimp only; omega⟩, hq, hcj, hcjl⟩ (by dsimp only; omega) esubT lessT)
          | (rw [hw3, ← hw1, ← hw2]
             rw [← orb_snoc] at hq
             first
               | exact JQ_roundP ((i + 1, cj + 1, q ++ [i]), i193, a2) ⟨⟨by dsimp only; omega, by dsimp only; omega⟩, hq, by dsimp only; rw [List.length_append, List.length_singleton]; omega, by dsimp only; omega⟩ (by dsimp only; omega) esubT lessT
               | exact JQ_roundP ((i + 1, cj + 1, q ++ [i]), a1, i186) ⟨⟨by dsimp only; omega, by dsimp only; omega⟩, hq, by dsimp only; rw [List.length_append, List.length_singleton]; omega, by dsimp only; omega⟩ (by dsimp only; omega) esubT lessT)
      have g : ¬ bitB (orb (hdS' ks s).used q) i = true := fun e => Bool.noConfusion (show false = true from h38.symm.trans e)
      rw [if_neg g] at hq
      clear h38
      refine JC_skip (JQ_then (JC_seq ?_))
      refine JC_region ?_
      refine JL_1 rfl (op_move rfl) ?_
      refine JL_1 rfl (op_call Try.call31 (HeaderLine_ok _) ⟨evS, trivial⟩) ?_
      refine JL_1 rfl (op_move rfl) ?_
      refine JL_1 rfl (op_add (Ev.rfl' rfl) (Ev.rfl' rfl) wrapT) ?_
      refine JL_1 rfl (op_assign rfl) ?_
      refine JL_nil ?_
      refine JQ_then (JC_seq ?_)
      refine JC_region ?_
      refine JL_1 rfl (op_move rfl) ?_
      refine JL_1 rfl (op_move rfl) ?_
      refine JL_1 rfl (op_call Try.call86 (LatestP_ok _ _) ⟨evS, ⟨evS, trivial⟩⟩) ?_
      refine JL_1 rfl (op_move rfl) ?_
      refine JL_1 rfl (op_extract (Ev.rfl' rfl) rfl) ?_
      refine JL_1 rfl (op_extract (Ev.rfl' rfl) rfl) ?_
      (refine JL_n rfl (op_allocN rfl nrmT rfl) ?_; intro i31)
      refine JL_s0 (op_storeN (Ev.rfl' rfl) (Ev.rfl' rfl) cellsT replT nrmT (by rfl) (by rfl) (by rfl)) ?_
      refine JL_1 rfl (op_assign rfl) ?_
      refine JL_nil ?_
      refine JQ_then (JC_seq ?_)
      refine JC_region ?_
      refine JL_1 rfl (by first | exact op_fieldPtr (k := 2) (Ev.rfl' rfl) rfl rfl rfl rfl | exact op_fieldRefN (k := 2) (Ev.rfl' rfl) rfl rfl rfl rfl nrmT) ?_
      refine JL_1 rfl (op_indexArr (k := 0) (sz := 1) (Ev.rfl' rfl) (Ev.rfl' rfl) rfl rfl idxT (by first | decide | omega)) ?_
      refine JL_1 rfl (by first | exact op_loadRef (Ev.rfl' rfl) rfl rfl rfl | exact op_loadPtr (Ev.rfl' rfl) memT (by rfl) (by rfl) (by rfl)) ?_
      refine JL_1 rfl (op_call Try.call87 (UnpackTag_ok _) ⟨evS, trivial⟩) ?_
      (refine JL_n rfl (op_allocN rfl nrmT rfl) ?_; intro i33)
      refine JL_s0 (op_storeN (Ev.rfl' rfl) (Ev.rfl' rfl) cellsT replT nrmT (by rfl) (by rfl) (by rfl)) ?_
      refine JL_nil ?_
      refine JQ_then (JC_seq (JC_block (JC_seq ?_)))
      refine JC_region ?_
      refine JL_1 rfl (op_move rfl) ?_
      refine JL_1 rfl (op_not (Ev.rfl' rfl)) ?_
      refine JL_1 rfl (op_assign rfl) ?_
      refine JL_nil ?_
      refine JQ_then ?_
      refine JC_cond (Ev.rfl' rfl) (fun h43 => ?_) (fun h43 => ?_)
      · have hlb : latB ks (lineV s + (i : Int)) = false := by simpa using h43
        have hpk : pkV ks (lineV s + (i : Int)) = 0 := by unfold pkV; rw [if_neg (by rw [hlb]; simp)]
        rw [if_neg (by rw [hpk]; decide), if_pos hpk] at hq
        clear h43
        have hw1 := need_snoc0 (ps := ps) (q := q) hlb
        have hw2 := fre_snoc0 (ps := ps) (q := q) hlb
        have hw3 := chg_put (ks := ks) (q := q) (i := i) hsn
        refine JC_region ?_
        refine JL_1 rfl (op_move rfl) ?_
        refine JL_1 rfl (op_move rfl) ?_
        refine JL_1 rfl (op_buildSlice (size := 1) (qs := [(0, _)]) rfl rfl rfl ⟨⟨rfl, _, (Ev.rfl' rfl), cellsT⟩, trivial⟩ (by rfl) (by rfl)) ?_
        (refine JL_s rfl (op_app (Ev.rfl' rfl) (fun _ => replT) (by first | exact Ev.rfl' rfl | exact Ev.sub rfl (by first | exact SubL.row (xs := [lineV s + (i : Int)]) (by rfl) (by rfl) subsT | exact subT)) (by exact appT rfl rfl rfl) lenT) ?_; intro i193)
        refine JL_1 rfl (op_assign rfl) ?_
        refine JL_nil ?_
        refine JQ_block (JQ_then (JC_seq ?_))
        refine JC_region ?_
        refine JL_1 rfl (op_move rfl) ?_
        refine JL_1 rfl (op_add (Ev.rfl' rfl) (Ev.rfl' rfl) wrapT) ?_
        refine JL_1 rfl (op_assign rfl) ?_
        refine JL_nil ?_
        refine JQ_then (JC_seq ?_)
        refine JC_region ?_
        refine JL_1 rfl (by first | exact op_fieldPtr (k := 1) (Ev.rfl' rfl) rfl rfl rfl rfl | exact op_fieldRefN (k := 1) (Ev.rfl' rfl) rfl rfl rfl rfl nrmT) ?_
        refine JL_1 rfl (by first | exact op_loadRef (Ev.rfl' rfl) rfl rfl rfl | exact op_loadPtr (Ev.rfl' rfl) memT (by rfl) (by rfl) (by rfl)) ?_
        refine JL_1 rfl (op_move rfl) ?_
        refine JL_1 rfl (op_conv (Ev.rfl' rfl) rfl rfl convT) ?_
        refine JL_1 rfl (by first | exact op_shlU32 (k := i) ev32 (Ev.rfl' rfl) (by first | omega | exact UV_nonneg _) idxT | exact op_shl (Ev.rfl' rfl) (Ev.rfl' rfl) (by first | omega | exact UV_nonneg _) rfl) ?_
        refine JL_1 rfl (by first | exact op_bits ev32 ev32 (by simp) (or_u32 _ _) | exact op_bits (Ev.rfl' rfl) (Ev.rfl' rfl) (by simp) rfl) ?_
        refine JL_1 rfl (by first | exact op_fieldPtr (k := 1) (Ev.rfl' rfl) rfl rfl rfl rfl | exact op_fieldRefN (k := 1) (Ev.rfl' rfl) rfl rfl rfl rfl nrmT) ?_
        refine JL_s0 (op_storeN (Ev.rfl' rfl) (Ev.rfl' rfl) cellsT replT nrmT (by rfl) (by rfl) (by rfl)) ?_
        refine JL_nil ?_
        refine JQ_then ?_
        rw [← orb_snoc]
        refine JC_region ?_
        refine JL_1 rfl (op_move rfl) ?_
        refine JL_1 rfl (op_move rfl) ?_
        refine JL_1 rfl (by first | exact op_loadRefsN (n := 2) (Ev.rfl' rfl) rfl rfl rfl (by rfl) nrmT | exact op_loadPtrsN (n := 2) (Ev.rfl' rfl) memT (by rfl) (by rfl) (by rfl) (by rfl) nrmT) ?_
        refine JL_s0 (op_mapPut (V := IsHd) (v := newHd ks (s, q ++ [i])) (Ev.rfl' rfl) (Ev.rfl' rfl) evS replT rfl rfl) ?_
        refine JL_nil ?_
        refine JQ_block (JQ_then ?_)
        refine JC_region ?_
        refine JL_1 rfl (op_move rfl) ?_
        refine JL_1 rfl (op_add (Ev.rfl' rfl) (Ev.rfl' rfl) wrapT) ?_
        refine JL_1 rfl (op_assign rfl) ?_
        refine JL_nil ?_
        first
          | (have := hsk; exact JQ_roundP ((i + 1, cj, q), a1, a2) ⟨⟨by dsimp only; omega, by dsimp only; omega⟩, hq, hcj, hcjl⟩ (by dsimp only; omega) esubT lessT)
          | (rw [hw3, ← hw1, ← hw2]
             rw [← orb_snoc] at hq
             first
               | exact JQ_roundP ((i + 1, cj + 1, q ++ [i]), i193, a2) ⟨⟨by dsimp only; omega, by dsimp only; omega⟩, hq, by dsimp only; rw [List.length_append, List.length_singleton]; omega, by dsimp only; omega⟩ (by dsimp only; omega) esubT lessT
               | exact JQ_roundP ((i + 1, cj + 1, q ++ [i]), a1, i186) ⟨⟨by dsimp only; omega, by dsimp only; omega⟩, hq, by dsimp only; rw [List.length_append, List.length_singleton]; omega, by dsimp only; omega⟩ (by dsimp only; omega) esubT lessT)
      have hlb : latB ks (lineV s + (i : Int)) = true := by simpa using h43
      clear h43
      refine JC_seq ?_
      refine JC_region ?_
      refine JL_1 rfl (by first | exact op_loadRefsN (n := 9) (Ev.rfl' rfl) rfl rfl rfl (by rfl) nrmT | exact op_loadPtrsN (n := 9) (Ev.rfl' rfl) memT (by rfl) (by rfl) (by rfl) (by rfl) nrmT) ?_
      refine JL_1 rfl (op_call Try.call88 (LockedB_ok _) ⟨evS, trivial⟩) ?_
      refine JL_1 rfl (op_assign rfl) ?_
      refine JL_nil ?_
      refine JQ_then ?_
      refine JC_cond (Ev.rfl' rfl) (fun h45 => ?_) (fun h45 => ?_)
      · have hpk : pkV ks (lineV s + (i : Int)) = 3 := by unfold pkV; rw [if_pos hlb, if_pos h45]
        rw [if_neg (by rw [hpk]; decide), if_neg (by rw [hpk]; decide), hpk] at hq
        have e : R = errA 3 := hq.symm
        subst e
        refine JC_seq ?_
        refine JC_region ?_
        refine JL_1 rfl (op_assign rfl) ?_
        refine JL_1 rfl (op_assign rfl) ?_
        refine JL_1 rfl (op_assign rfl) ?_
        refine JL_1 rfl (op_assign rfl) ?_
        refine JL_1 rfl (op_assign rfl) ?_
        refine JL_nil ?_
        refine JQ_then (JC_ret (JQ_block_ret (JQ_then_ret (JQ_block_ret (JQ_then_ret (JQ_then_ret (JQ_block_ret (JQ_block_ret (JQ_then_ret (JQ_then_ret (JQ_block_ret (JQ_then_ret ?_))))))))))))
        refine JQ_buf0 25 tPg ?_
        refine JQ_buf0 25 tPg ?_
        exact JQ_retP (Bs := [IsSl tI64 [], Is (.slice none 0 0), Is (.slice none 0 0), Is (.int .i64 3), Is (.bool true)]) Try.results40 ⟨⟨_, rfl, subT⟩, ⟨⟨_, rfl, subT⟩, ⟨⟨_, rfl, subT⟩, ⟨⟨_, rfl, subT⟩, ⟨⟨_, rfl, subT⟩, trivial⟩⟩⟩⟩⟩ ((none, 0), (none, 0)) SubL.rfl' lessT
      have g2 : ¬ lockB (latP ks (lineV s + (i : Int))) = true := by rw [h45]; simp
      clear h45
      refine JC_seq ?_
      refine JC_region ?_
      refine JL_1 rfl (by first | exact op_fieldPtr (k := 0) (Ev.rfl' rfl) rfl rfl rfl rfl | exact op_fieldRefN (k := 0) (Ev.rfl' rfl) rfl rfl rfl rfl nrmT) ?_
      refine JL_1 rfl (by first | exact op_loadRef (Ev.rfl' rfl) rfl rfl rfl | exact op_loadPtr (Ev.rfl' rfl) memT (by rfl) (by rfl) (by rfl)) ?_
      refine JL_1 rfl (op_neq (Ev.rfl' rfl) (Ev.rfl' rfl)) ?_
      refine JL_1 rfl (op_assign rfl) ?_
      refine JL_nil ?_
      refine JQ_then ?_
      refine JC_cond (Ev.rfl' rfl) (fun h47 => ?_) (fun h47 => ?_)
      · have g3 : kindV (latP ks (lineV s + (i : Int))).d0 ≠ 0 := by simpa [unpackT] using h47
        have hpk : pkV ks (lineV s + (i : Int)) = 11 := by unfold pkV; rw [if_pos hlb, if_neg g2, if_pos g3]
        rw [if_neg (by rw [hpk]; decide), if_neg (by rw [hpk]; decide), hpk] at hq
        have e : R = errA 11 := hq.symm
        subst e
        refine JC_seq ?_
        refine JC_region ?_
        refine JL_1 rfl (op_assign rfl) ?_
        refine JL_1 rfl (op_assign rfl) ?_
        refine JL_1 rfl (op_assign rfl) ?_
        refine JL_1 rfl (op_assign rfl) ?_
        refine JL_1 rfl (op_assign rfl) ?_
        refine JL_nil ?_
        refine JQ_then (JC_ret (JQ_block_ret (JQ_then_ret (JQ_block_ret (JQ_then_ret (JQ_then_ret (JQ_block_ret (JQ_block_ret (JQ_then_ret (JQ_then_ret (JQ_block_ret (JQ_then_ret ?_))))))))))))
        refine JQ_buf0 25 tPg ?_
        refine JQ_buf0 25 tPg ?_
        exact JQ_retP (Bs := [IsSl tI64 [], Is (.slice none 0 0), Is (.slice none 0 0), Is (.int .i64 11), Is (.bool true)]) Try.results40 ⟨⟨_, rfl, subT⟩, ⟨⟨_, rfl, subT⟩, ⟨⟨_, rfl, subT⟩, ⟨⟨_, rfl, subT⟩, ⟨⟨_, rfl, subT⟩, trivial⟩⟩⟩⟩⟩ ((none, 0), (none, 0)) SubL.rfl' lessT
      have g3 : ¬ kindV (latP ks (lineV s + (i : Int))).d0 ≠ 0 := by simpa [unpackT] using h47
      clear h47
      refine JC_seq ?_
      refine JC_region ?_
      refine JL_1 rfl (by first | exact op_fieldPtr (k := 1) (Ev.rfl' rfl) rfl rfl rfl rfl | exact op_fieldRefN (k := 1) (Ev.rfl' rfl) rfl rfl rfl rfl nrmT) ?_
      refine JL_1 rfl (by first | exact op_loadRef (Ev.rfl' rfl) rfl rfl rfl | exact op_loadPtr (Ev.rfl' rfl) memT (by rfl) (by rfl) (by rfl)) ?_
      refine JL_1 rfl (op_eql (Ev.rfl' rfl) (Ev.rfl' rfl)) ?_
      refine JL_1 rfl (op_assign rfl) ?_
      refine JL_nil ?_
      refine JQ_then ?_
      refine JC_cond (Ev.rfl' rfl) (fun h49 => ?_) (fun h49 => ?_)
      · have g4 : genV (latP ks (lineV s + (i : Int))).d0 = 16777215 := by simpa [unpackT] using h49
        have hpk : pkV ks (lineV s + (i : Int)) = -1 := by unfold pkV; rw [if_pos hlb, if_neg g2, if_neg g3, if_pos g4]
        rw [if_pos hpk] at hq
        have hsk : True := trivial
        clear h49
        refine JC_exit (JQ_block_miss rfl (JQ_then_exit (JQ_hit (JQ_then ?_))))
        refine JC_region ?_
        refine JL_1 rfl (op_move rfl) ?_
        refine JL_1 rfl (op_add (Ev.rfl' rfl) (Ev.rfl' rfl) wrapT) ?_
        refine JL_1 rfl (op_assign rfl) ?_
        refine JL_nil ?_
        first
          | (have := hsk; exact JQ_roundP ((i + 1, cj, q), a1, a2) ⟨⟨by dsimp only; omega, by dsimp only; omega⟩, hq, hcj, hcjl⟩ (by dsimp only; omega) esubT lessT)
          | (rw [hw3, ← hw1, ← hw2]
             rw [← orb_snoc] at hq
             first
               | exact JQ_roundP ((i + 1, cj + 1, q ++ [i]), i193, a2) ⟨⟨by dsimp only; omega, by dsimp only; omega⟩, hq, by dsimp only; rw [List.length_append, List.length_singleton]; omega, by dsimp only; omega⟩ (by dsimp only; omega) esubT lessT
               | exact JQ_roundP ((i + 1, cj + 1, q ++ [i]), a1, i186) ⟨⟨by dsimp only; omega, by dsimp only; omega⟩, hq, by dsimp only; rw [List.length_append, List.length_singleton]; omega, by dsimp only; omega⟩ (by dsimp only; omega) esubT lessT)
      have g4 : ¬ genV (latP ks (lineV s + (i : Int))).d0 = 16777215 := by simpa [unpackT] using h49
      have hpk : pkV ks (lineV s + (i : Int)) = 0 := by unfold pkV; rw [if_pos hlb, if_neg g2, if_neg g3, if_neg g4]
      rw [if_neg (by rw [hpk]; decide), if_pos hpk] at hq
      clear h49
      have hw1 := need_snoc1 (ps := ps) (q := q) hlb
      have hw2 := fre_snoc1 (ps := ps) (q := q) hlb
      have hw3 := chg_put (ks := ks) (q := q) (i := i) hsn
      refine JC_region ?_
      refine JL_1 rfl (op_move rfl) ?_
      refine JL_1 rfl (by first | exact op_loadRefsN (n := 9) (Ev.rfl' rfl) rfl rfl rfl (by rfl) nrmT | exact op_loadPtrsN (n := 9) (Ev.rfl' rfl) memT (by rfl) (by rfl) (by rfl) (by rfl) nrmT) ?_
      refine JL_1 rfl (op_buildSlice (size := 9) (qs := [(0, _)]) rfl rfl rfl ⟨⟨rfl, _, (Ev.rfl' rfl), cellsT⟩, trivial⟩ (by rfl) (by rfl)) ?_
      (refine JL_s rfl (op_app (Ev.rfl' rfl) (fun _ => replT) (by first | exact Ev.rfl' rfl | exact Ev.sub rfl (by first | exact SubL.row (xs := [latP ks (lineV s + (i : Int))]) (by rfl) (by rfl) subsT | exact subT)) (by exact appT rfl rfl rfl) lenT) ?_; intro i186)
      refine JL_1 rfl (op_assign rfl) ?_
      refine JL_nil ?_
      refine JQ_block (JQ_then (JC_seq ?_))
      refine JC_region ?_
      refine JL_1 rfl (op_move rfl) ?_
      refine JL_1 rfl (op_add (Ev.rfl' rfl) (Ev.rfl' rfl) wrapT) ?_
      refine JL_1 rfl (op_assign rfl) ?_
      refine JL_nil ?_
      refine JQ_then (JC_seq ?_)
      refine JC_region ?_
      refine JL_1 rfl (by first | exact op_fieldPtr (k := 1) (Ev.rfl' rfl) rfl rfl rfl rfl | exact op_fieldRefN (k := 1) (Ev.rfl' rfl) rfl rfl rfl rfl nrmT) ?_
      refine JL_1 rfl (by first | exact op_loadRef (Ev.rfl' rfl) rfl rfl rfl | exact op_loadPtr (Ev.rfl' rfl) memT (by rfl) (by rfl) (by rfl)) ?_
      refine JL_1 rfl (op_move rfl) ?_
      refine JL_1 rfl (op_conv (Ev.rfl' rfl) rfl rfl convT) ?_
      refine JL_1 rfl (by first | exact op_shlU32 (k := i) ev32 (Ev.rfl' rfl) (by first | omega | exact UV_nonneg _) idxT | exact op_shl (Ev.rfl' rfl) (Ev.rfl' rfl) (by first | omega | exact UV_nonneg _) rfl) ?_
      refine JL_1 rfl (by first | exact op_bits ev32 ev32 (by simp) (or_u32 _ _) | exact op_bits (Ev.rfl' rfl) (Ev.rfl' rfl) (by simp) rfl) ?_
      refine JL_1 rfl (by first | exact op_fieldPtr (k := 1) (Ev.rfl' rfl) rfl rfl rfl rfl | exact op_fieldRefN (k := 1) (Ev.rfl' rfl) rfl rfl rfl rfl nrmT) ?_
      refine JL_s0 (op_storeN (Ev.rfl' rfl) (Ev.rfl' rfl) cellsT replT nrmT (by rfl) (by rfl) (by rfl)) ?_
      refine JL_nil ?_
      refine JQ_then ?_
      rw [← orb_snoc]
      refine JC_region ?_
      refine JL_1 rfl (op_move rfl) ?_
      refine JL_1 rfl (op_move rfl) ?_
      refine JL_1 rfl (by first | exact op_loadRefsN (n := 2) (Ev.rfl' rfl) rfl rfl rfl (by rfl) nrmT | exact op_loadPtrsN (n := 2) (Ev.rfl' rfl) memT (by rfl) (by rfl) (by rfl) (by rfl) nrmT) ?_
      refine JL_s0 (op_mapPut (V := IsHd) (v := newHd ks (s, q ++ [i])) (Ev.rfl' rfl) (Ev.rfl' rfl) evS replT rfl rfl) ?_
      refine JL_nil ?_
      refine JQ_block (JQ_then ?_)
      refine JC_region ?_
      refine JL_1 rfl (op_move rfl) ?_
      refine JL_1 rfl (op_add (Ev.rfl' rfl) (Ev.rfl' rfl) wrapT) ?_
      refine JL_1 rfl (op_assign rfl) ?_
      refine JL_nil ?_
      first
        | (have := hsk; exact JQ_roundP ((i + 1, cj, q), a1, a2) ⟨⟨by dsimp only; omega, by dsimp only; omega⟩, hq, hcj, hcjl⟩ (by dsimp only; omega) esubT lessT)
        | (rw [hw3, ← hw1, ← hw2]
           rw [← orb_snoc] at hq
           first
             | exact JQ_roundP ((i + 1, cj + 1, q ++ [i]), i193, a2) ⟨⟨by dsimp only; omega, by dsimp only; omega⟩, hq, by dsimp only; rw [List.length_append, List.length_singleton]; omega, by dsimp only; omega⟩ (by dsimp only; omega) esubT lessT
             | exact JQ_roundP ((i + 1, cj + 1, q ++ [i]), a1, i186) ⟨⟨by dsimp only; omega, by dsimp only; omega⟩, hq, by dsimp only; rw [List.length_append, List.length_singleton]; omega, by dsimp only; omega⟩ (by dsimp only; omega) esubT lessT)
    have hi : ¬ (i < 16 ∧ cj < cnt) := by simp at h36; omega
    clear h36
    rw [inn_stop hi] at hq
    have hq2 : excA ks cnt (outS ks cnt (Q.drop (k + 1)) cj (ps ++ [(s, q)])) = R := by rw [hcj]; exact hq
    refine JC_exit (JQ_then_exit (JQ_then_exit (JQ_hit (JQ_block (JQ_then ?_)))))
    refine JC_region ?_
    refine JL_1 rfl (op_add (Ev.rfl' rfl) (Ev.rfl' rfl) wrapT) ?_
    refine JL_1 rfl (op_move rfl) ?_
    refine JL_nil ?_
    exact JQ_roundP ((k + 1, cj, ps ++ [(s, q)]), a1, a2) ⟨by dsimp only; omega, hq2, by dsimp only; rw [List.map_append, hmp, List.take_add_one, hz]; rfl, by dsimp only; omega, hcjl⟩ (by dsimp only; omega) esubT lessT
  have hke : k = Q.length := by have := of_decide_eq_false h32; omega
  subst hke
  clear h32
  rw [List.drop_length] at hs
  rw [List.take_length] at hmp
  have hs3 : finA ks cnt ps = R := hs
  clear hs
  refine JC_exit (JQ_then_exit (JQ_then_exit (JQ_hit (JQ_then (JC_seq (JC_seq ?_))))))
  refine JC_region ?_
  refine JL_1 rfl (op_move rfl) ?_
  refine JL_1 rfl (by first | exact op_fieldPtr (k := 2) (Ev.rfl' rfl) rfl rfl rfl rfl | exact op_fieldRefN (k := 2) (Ev.rfl' rfl) rfl rfl rfl rfl nrmT) ?_
  refine JL_1 rfl (by first | exact op_loadRef (Ev.rfl' rfl) rfl rfl rfl | exact op_loadPtr (Ev.rfl' rfl) memT (by rfl) (by rfl) (by rfl)) ?_
  refine JL_1 rfl (op_lss (Ev.rfl' rfl) (Ev.rfl' rfl)) ?_
  refine JL_nil ?_
  refine JQ_then ?_
  refine JC_cond (Ev.rfl' rfl) (fun h54 => ?_) (fun h54 => ?_)
  · have g : totP ps < cnt := by have := of_decide_eq_true h54; omega
    have e : R = errA 12 := by rw [← hs3]; unfold finA; rw [if_pos g]
    subst e
    refine JC_seq ?_
    refine JC_region ?_
    refine JL_1 rfl (op_assign rfl) ?_
    refine JL_1 rfl (op_assign rfl) ?_
    refine JL_1 rfl (op_assign rfl) ?_
    refine JL_1 rfl (op_assign rfl) ?_
    refine JL_1 rfl (op_assign rfl) ?_
    refine JL_nil ?_
    refine JQ_then (JC_ret (JQ_then_ret ?_))
    refine JQ_buf0 25 tPg ?_
    refine JQ_buf0 25 tPg ?_
    exact JQ_retP (Bs := [IsSl tI64 [], Is (.slice none 0 0), Is (.slice none 0 0), Is (.int .i64 12), Is (.bool true)]) Try.results40 ⟨⟨_, rfl, subT⟩, ⟨⟨_, rfl, subT⟩, ⟨⟨_, rfl, subT⟩, ⟨⟨_, rfl, subT⟩, ⟨⟨_, rfl, subT⟩, trivial⟩⟩⟩⟩⟩ ((none, 0), (none, 0)) SubL.rfl' lessT
  have g : ¬ totP ps < cnt := by have := of_decide_eq_false h54; omega
  clear h54
  refine JC_skip (JQ_then (JC_seq (JC_seq ?_)))
  refine JC_region ?_
  refine JL_1 rfl (op_move rfl) ?_
  refine JL_1 rfl (by first | exact op_len (Ev.rfl' rfl) rfl | exact op_lenLit (Ev.rfl' rfl) rfl) ?_
  refine JL_1 rfl (op_gtr (Ev.rfl' rfl) (Ev.rfl' rfl)) ?_
  refine JL_nil ?_
  refine JQ_then ?_
  refine JC_cond (Ev.rfl' rfl) (fun h56 => ?_) (fun h56 => ?_)
  · have g2 : 0 < (needP ks ps).length := by have := of_decide_eq_true h56; omega
    have e : R = (needP ks ps, [], [], 0, false) := by rw [← hs3]; unfold finA; rw [if_neg g, if_pos g2]
    subst e
    refine JC_seq ?_
    refine JC_region ?_
    refine JL_1 rfl (op_move rfl) ?_
    refine JL_1 rfl (op_assign rfl) ?_
    refine JL_1 rfl (op_assign rfl) ?_
    refine JL_1 rfl (op_assign rfl) ?_
    refine JL_1 rfl (op_assign rfl) ?_
    refine JL_1 rfl (op_assign rfl) ?_
    refine JL_nil ?_
    refine JQ_then (JC_ret (JQ_then_ret ?_))
    refine JQ_freeze hX (v := slV (needP ks ps).length b1) replT ?_
    refine JQ_buf0 25 tPg ?_
    refine JQ_buf0 25 tPg ?_
    exact JQ_retP (Bs := [IsSl tI64 (needP ks ps), Is (.slice none 0 0), Is (.slice none 0 0), Is (.int .i64 0), Is (.bool false)]) Try.results40 ⟨⟨_, rfl, subT⟩, ⟨⟨_, rfl, subT⟩, ⟨⟨_, rfl, subT⟩, ⟨⟨_, rfl, subT⟩, ⟨⟨_, rfl, subT⟩, trivial⟩⟩⟩⟩⟩ ((none, 0), (none, 0)) SubL.rfl' lessT
  have g2 : ¬ 0 < (needP ks ps).length := by have := of_decide_eq_false h56; omega
  clear h56
  have e : R = ([], freP ks ps, wriP ks ps, 0, true) := by rw [← hs3]; unfold finA; rw [if_neg g, if_neg g2]
  subst e
  clear hs3
  have hpl : ps.length = Q.length := by rw [← hmp, List.length_map]
  have hnp : (ps.map Prod.fst).Nodup := by rw [hmp]; exact hQs.1
  have hfl := fre_le ks ps
  refine JC_skip (JQ_then (JC_seq (JC_seq ?_)))
  refine JC_region ?_
  refine JL_1 rfl (op_move rfl) ?_
  refine JL_1 rfl (by first | exact op_len (Ev.rfl' rfl) rfl | exact op_lenLit (Ev.rfl' rfl) rfl) ?_
  refine JL_1 rfl (op_move rfl) ?_
  refine JL_nil ?_
  refine JQ_then (JC_block ?_)
  refine JC_buf0 25 tPg ?_
  refine JC_loopP (fun z : Nat × (Option Addr × Nat) => z.1 ≤ Q.length) (fun z => [(5, Is (slV (freP ks ps).length b2)), (6, Is (slV (wriP ks (ps.take z.1)).length z.2)), (13, Is (.map (some i92))), (25, Is (.map (some i142))), (226, IsSl tI64 Q), (227, Is (.int .i64 (Q.length : Nat))), (228, Is (.int .i64 (z.1 : Nat)))]) (fun z => [mp i92 IsPg (S.map fun s => (s, (headV ks s).1)), mp i142 IsHd (chgP ks ps), buf (slV (freP ks ps).length b2) 25 tPg (freP ks ps), buf (slV (wriP ks (ps.take z.1)).length z.2) 25 tPg (wriP ks (ps.take z.1))]) (fun z => Q.length - z.1) (0, (none, 0)) (Nat.zero_le _) esubT lessT ?_
  rintro ⟨k, a3⟩ hk
  dsimp only at hk ⊢
  refine JC_seq ?_
  refine JC_region ?_
  refine JL_1 rfl (op_lss (Ev.rfl' rfl) (Ev.rfl' rfl)) ?_
  refine JL_nil ?_
  refine JQ_then (JC_seq ?_)
  refine JC_cond (Ev.rfl' rfl) (fun h59 => ?_) (fun h59 => ?_)
  · have hlt : k < Q.length := by have := of_decide_eq_true h59; omega
    clear h59
    obtain ⟨s, hz⟩ : ∃ z, Q[k]? = some z := ⟨Q[k], List.getElem?_eq_getElem hlt⟩
    have hmg := mget_map (f := fun s => (headV ks s).1) (hQs.2 s (List.mem_of_getElem? hz))
    obtain ⟨q, hzq⟩ : ∃ q, ps[k]? = some (s, q) := by
      have h1 : ps[k]? = some ps[k] := List.getElem?_eq_getElem (by omega)
      have h2 : (ps.map Prod.fst)[k]? = some s := by rw [hmp]; exact hz
      rw [List.getElem?_map, h1] at h2
      have h3 : ps[k].1 = s := Option.some.inj h2
      exact ⟨ps[k].2, by rw [h1, ← h3]⟩
    have hcg := chg_get (ks := ks) hnp hzq
    have hwt := wri_take (ks := ks) hzq
    have hwl : (wriP ks (ps.take k)).length ≤ 9 := by
      have h1 := wri_le ks (ps.take k)
      have h2 := List.length_take_le k ps
      omega
    refine JC_skip (JQ_then (JC_seq (JC_block (JC_seq ?_))))
    refine JC_region ?_
    refine JL_1 rfl (by first | exact op_index (j := _) (Ev.rfl' rfl) (Ev.rfl' rfl) rfl rfl (by first | rfl | omega) hz | exact op_index (j := _) (Ev.rfl' rfl) (Ev.rfl' rfl) rfl rfl (by first | rfl | omega) (by assumption)) ?_
    refine JL_1 rfl (by first | exact op_loadRef (Ev.rfl' rfl) rfl rfl rfl | exact op_loadPtr (Ev.rfl' rfl) memT (by rfl) (by rfl) (by rfl)) ?_
    refine JL_1 rfl (op_assign rfl) ?_
    refine JL_nil ?_
    refine JQ_then (JC_seq ?_)
    refine JC_region ?_
    refine JL_1 rfl (op_move rfl) ?_
    refine JL_1 rfl (op_move rfl) ?_
    refine JL_1 rfl (op_lookup2D Hd.nil hd_zero (Ev.rfl' rfl) memT (Ev.rfl' rfl) rfl rfl rfl) ?_
    refine JL_1 rfl (op_move rfl) ?_
    refine JL_1 rfl (op_extract (Ev.rfl' rfl) rfl) ?_
    refine JL_1 rfl (op_extract (Ev.rfl' rfl) rfl) ?_
    (refine JL_n rfl (op_allocN rfl nrmT rfl) ?_; intro i36)
    refine JL_s0 (op_storeN (Ev.rfl' rfl) (Ev.rfl' rfl) cellsT replT nrmT (by rfl) (by rfl) (by rfl)) ?_
    refine JL_1 rfl (op_assign rfl) ?_
    refine JL_nil ?_
    refine JQ_then (JC_seq ?_)
    refine JC_region ?_
    refine JL_1 rfl (op_move rfl) ?_
    refine JL_nil ?_
    refine JQ_then ?_
    refine JC_cond (Ev.rfl' rfl) (fun h62 => ?_) (fun h62 => ?_)
    · have hqn : ¬ q = [] := fun e => by rw [hcg, if_pos e] at h62; cases h62
      rw [if_neg hqn] at hcg hwt
      rw [hcg]
      clear h62
      refine JC_seq ?_
      refine JC_region ?_
      refine JL_1 rfl (op_move rfl) ?_
      refine JL_1 rfl (op_move rfl) ?_
      refine JL_1 rfl (op_lookupS hmg (Ev.rfl' rfl) memT (Ev.rfl' rfl) rfl rfl rfl) ?_
      refine JL_1 rfl (by first | exact op_loadRefsN (n := 2) (Ev.rfl' rfl) rfl rfl rfl (by rfl) nrmT | exact op_loadPtrsN (n := 2) (Ev.rfl' rfl) memT (by rfl) (by rfl) (by rfl) (by rfl) nrmT) ?_
      refine JL_1 rfl (op_call Try.call22 (WriteHeader_ok _ _) ⟨evS, ⟨evS, trivial⟩⟩) ?_
      refine JL_1 rfl (op_move rfl) ?_
      refine JL_1 rfl (op_extract (Ev.rfl' rfl) rfl) ?_
      refine JL_1 rfl (op_extract (Ev.rfl' rfl) rfl) ?_
      (refine JL_n rfl (op_allocN rfl nrmT rfl) ?_; intro i38)
      refine JL_s0 (op_storeN (Ev.rfl' rfl) (Ev.rfl' rfl) cellsT replT nrmT (by rfl) (by rfl) (by rfl)) ?_
      refine JL_1 rfl (op_assign rfl) ?_
      refine JL_nil ?_
      refine JQ_then ?_
      refine JC_region ?_
      refine JL_1 rfl (op_move rfl) ?_
      refine JL_1 rfl (by first | exact op_loadRefsN (n := 9) (Ev.rfl' rfl) rfl rfl rfl (by rfl) nrmT | exact op_loadPtrsN (n := 9) (Ev.rfl' rfl) memT (by rfl) (by rfl) (by rfl) (by rfl) nrmT) ?_
      refine JL_1 rfl (op_buildSlice (size := 9) (qs := [(0, _)]) rfl rfl rfl ⟨⟨rfl, _, (Ev.rfl' rfl), cellsT⟩, trivial⟩ (by rfl) (by rfl)) ?_
      (refine JL_s rfl (op_app (Ev.rfl' rfl) (fun _ => replT) (by first | exact Ev.rfl' rfl | exact Ev.sub rfl (by first | exact SubL.row (xs := [(writeH (headV ks s).1 (newHd ks (s, q))).1]) (by rfl) (by rfl) subsT | exact subT)) (by exact appT rfl rfl rfl) lenT) ?_; intro i250)
      refine JL_1 rfl (op_assign rfl) ?_
      refine JL_nil ?_
      refine JQ_block (JQ_then ?_)
      refine JC_region ?_
      refine JL_1 rfl (op_add (Ev.rfl' rfl) (Ev.rfl' rfl) wrapT) ?_
      refine JL_1 rfl (op_move rfl) ?_
      refine JL_nil ?_
      rw [← hwt]
      first | exact JQ_roundP (k + 1, i250) (by dsimp only; omega) (by dsimp only; omega) esubT lessT | exact JQ_roundP (k + 1, a3) (by dsimp only; omega) (by dsimp only; omega) esubT lessT
    have hqn : q = [] := Classical.byContradiction fun e => by rw [hcg, if_neg e] at h62; cases h62
    rw [if_pos hqn] at hwt
    clear h62
    refine JC_skip (JQ_block (JQ_then ?_))
    refine JC_region ?_
    refine JL_1 rfl (op_add (Ev.rfl' rfl) (Ev.rfl' rfl) wrapT) ?_
    refine JL_1 rfl (op_move rfl) ?_
    refine JL_nil ?_
    rw [← hwt]
    first | exact JQ_roundP (k + 1, i250) (by dsimp only; omega) (by dsimp only; omega) esubT lessT | exact JQ_roundP (k + 1, a3) (by dsimp only; omega) (by dsimp only; omega) esubT lessT
  have hke : k = ps.length := by have := of_decide_eq_false h59; omega
  subst hke
  clear h59
  rw [List.take_length]
  refine JC_exit (JQ_then_exit (JQ_then_exit (JQ_hit (JQ_then (JC_seq ?_)))))
  refine JC_region ?_
  refine JL_1 rfl (op_move rfl) ?_
  refine JL_1 rfl (op_move rfl) ?_
  refine JL_1 rfl (op_assign rfl) ?_
  refine JL_1 rfl (op_assign rfl) ?_
  refine JL_1 rfl (op_assign rfl) ?_
  refine JL_1 rfl (op_assign rfl) ?_
  refine JL_1 rfl (op_assign rfl) ?_
  refine JL_nil ?_
  refine JQ_then (JC_ret ?_)
  exact JQ_retP (Bs := [IsSl tI64 [], Is (slV (freP ks ps).length b2), Is (slV (wriP ks ps).length a3), Is (.int .i64 0), Is (.bool true)]) Try.results40 ⟨⟨_, rfl, subT⟩, ⟨⟨_, rfl, subT⟩, ⟨⟨_, rfl, subT⟩, ⟨⟨_, rfl, subT⟩, ⟨⟨_, rfl, subT⟩, trivial⟩⟩⟩⟩⟩ (b2, a3) SubL.rfl' lessT
end Go.Proofs.Ytpfojangcgffkaa

/- Contracts: a segment taken; the written pages are the caller's own. Own work. -/
namespace Go.Proofs.Ytpfojangcgffkaa
open Go.RowKit
set_option linter.unusedVariables false
set_option linter.unusedSimpArgs false
set_option maxRecDepth 100000
-- segment.Acquire: function 38
set_option maxHeartbeats 400000 in
theorem AcquireF_ok (ks : List Pg) (cl : Nat) (inc lines : Int) (hc : cl < 6) (hi : 1 ≤ inc ∧ inc ≤ 59) (hz : sizeB lines = true) (h2m : ¬ 0 < (missV ks [98 + (cl : Int)]).length → (missV ks (hdrL lines)).length ≤ 1)
    (hlt : sB ks cl (countN lines) = true → (mineW ks cl inc (sV ks cl (countN lines))).l < (headW ks cl (sV ks cl (countN lines))).l) :
    Fn Try.prog 38 [IsAgg [Is (.int .i64 (cl : Nat)), Is (.int .i64 inc), Is (.int .i64 lines), Is (.int .i64 (-1))], IsSl tPg ks] [] (fun i : Option Addr × Nat => IsTup [IsSl tI64 (acqV ks cl inc lines).1, Is (slV (acqV ks cl inc lines).2.1.length i), Is (.int .i64 ((acqV ks cl inc lines).2.2.1 : Nat)), Is (.int .i64 (acqV ks cl inc lines).2.2.2.1), Is (.bool (acqV ks cl inc lines).2.2.2.2)]) (fun i => [buf (slV (acqV ks cl inc lines).2.1.length i) 25 tPg (acqV ks cl inc lines).2.1]) := by
  have hcn := countN_le lines
  have hm1 := miss1 ks (98 + (cl : Int))
  have hol := ownV_len 511#32 (countN lines)
  have hcb : clientB (cl : Nat) = true := by unfold clientB; simp; omega
  refine Fn.enterN Try.func38 Try.ntmps38 rfl rfl ?_
  intro c hX
  refine JC_seq ?_
  refine JC_region ?_
  (refine JL_n rfl (op_box (Ev.rfl' rfl) cellsT) ?_; intro i2)
  refine JL_1 rfl (op_assign rfl) ?_
  refine JL_1 rfl (op_assign rfl) ?_
  refine JL_1 rfl (op_assign rfl) ?_
  refine JL_1 rfl (op_assign rfl) ?_
  refine JL_1 rfl (op_assign rfl) ?_
  refine JL_nil ?_
  refine JQ_then (JC_seq (JC_seq ?_))
  refine JC_region ?_
  refine JL_1 rfl (by first | exact op_fieldPtr (k := 0) (Ev.rfl' rfl) rfl rfl rfl rfl | exact op_fieldRefN (k := 0) (Ev.rfl' rfl) rfl rfl rfl rfl nrmT) ?_
  refine JL_1 rfl (by first | exact op_loadRef (Ev.rfl' rfl) rfl rfl rfl | exact op_loadPtr (Ev.rfl' rfl) memT (by rfl) (by rfl) (by rfl)) ?_
  refine JL_1 rfl (op_call Try.call78 (isClient_ok _) ⟨evS, trivial⟩) ?_
  refine JL_1 rfl (op_not (Ev.rfl' rfl)) ?_
  refine JL_1 rfl (op_move rfl) ?_
  (first | refine JL_i0 rfl rfl rfl (fun hg => (by have hg0 := hg; (try simp at hg); first | exact op_fieldPtr (k := 1) evG rfl rfl rfl rfl | exact op_fieldRefN (k := 1) evG rfl rfl rfl rfl nrmT)) ?_ | refine JL_i rfl rfl rfl (fun hp hg => (by have hpg := Bool.and_eq_true_iff.2 ⟨hp, hg⟩; have hg0 := hg; (try simp at hg); first | exact op_fieldPtr (k := 1) evG rfl rfl rfl rfl | exact op_fieldRefN (k := 1) evG rfl rfl rfl rfl nrmT)) ?_)
  (first | refine JL_i0 rfl rfl rfl (fun hg => (by have hg0 := hg; (try simp at hg); first | exact op_loadRef evG rfl rfl rfl | exact op_loadPtr evG memT (by rfl) (by rfl) (by rfl))) ?_ | refine JL_i rfl rfl rfl (fun hp hg => (by have hpg := Bool.and_eq_true_iff.2 ⟨hp, hg⟩; have hg0 := hg; (try simp at hg); first | exact op_loadRef evG rfl rfl rfl | exact op_loadPtr evG memT (by rfl) (by rfl) (by rfl))) ?_)
  (first | refine JL_i0 rfl rfl rfl (fun hg => (by have hg0 := hg; (try simp at hg); exact op_lss evG evG)) ?_ | refine JL_i rfl rfl rfl (fun hp hg => (by have hpg := Bool.and_eq_true_iff.2 ⟨hp, hg⟩; have hg0 := hg; (try simp at hg); exact op_lss evG evG)) ?_)
  refine JL_1 rfl (op_or (Ev.rfl' rfl) rfl (fun h => by first | exact SubL.rfl' | exact SubL.iteT (by first | (rw [h]; rfl) | (simp_all; done)) SubL.rfl')) ?_
  refine JL_1 rfl (op_move rfl) ?_
  (first | refine JL_i0 rfl rfl rfl (fun hg => (by have hg0 := hg; (try simp at hg); first | exact op_fieldPtr (k := 1) evG rfl rfl rfl rfl | exact op_fieldRefN (k := 1) evG rfl rfl rfl rfl nrmT)) ?_ | refine JL_i rfl rfl rfl (fun hp hg => (by have hpg := Bool.and_eq_true_iff.2 ⟨hp, hg⟩; have hg0 := hg; (try simp at hg); first | exact op_fieldPtr (k := 1) evG rfl rfl rfl rfl | exact op_fieldRefN (k := 1) evG rfl rfl rfl rfl nrmT)) ?_)
  (first | refine JL_i0 rfl rfl rfl (fun hg => (by have hg0 := hg; (try simp at hg); first | exact op_loadRef evG rfl rfl rfl | exact op_loadPtr evG memT (by rfl) (by rfl) (by rfl))) ?_ | refine JL_i rfl rfl rfl (fun hp hg => (by have hpg := Bool.and_eq_true_iff.2 ⟨hp, hg⟩; have hg0 := hg; (try simp at hg); first | exact op_loadRef evG rfl rfl rfl | exact op_loadPtr evG memT (by rfl) (by rfl) (by rfl))) ?_)
  (first | refine JL_i0 rfl rfl rfl (fun hg => (by have hg0 := hg; (try simp at hg); exact op_gtr evG evG)) ?_ | refine JL_i rfl rfl rfl (fun hp hg => (by have hpg := Bool.and_eq_true_iff.2 ⟨hp, hg⟩; have hg0 := hg; (try simp at hg); exact op_gtr evG evG)) ?_)
  refine JL_1 rfl (op_or (Ev.rfl' rfl) rfl (fun h => by first | exact SubL.rfl' | exact SubL.iteT (by first | (rw [h]; rfl) | (simp_all; done)) SubL.rfl')) ?_
  refine JL_1 rfl (op_move rfl) ?_
  (first | refine JL_i0 rfl rfl rfl (fun hg => (by have hg0 := hg; (try simp at hg); first | exact op_fieldPtr (k := 2) evG rfl rfl rfl rfl | exact op_fieldRefN (k := 2) evG rfl rfl rfl rfl nrmT)) ?_ | refine JL_i rfl rfl rfl (fun hp hg => (by have hpg := Bool.and_eq_true_iff.2 ⟨hp, hg⟩; have hg0 := hg; (try simp at hg); first | exact op_fieldPtr (k := 2) evG rfl rfl rfl rfl | exact op_fieldRefN (k := 2) evG rfl rfl rfl rfl nrmT)) ?_)
  (first | refine JL_i0 rfl rfl rfl (fun hg => (by have hg0 := hg; (try simp at hg); first | exact op_loadRef evG rfl rfl rfl | exact op_loadPtr evG memT (by rfl) (by rfl) (by rfl))) ?_ | refine JL_i rfl rfl rfl (fun hp hg => (by have hpg := Bool.and_eq_true_iff.2 ⟨hp, hg⟩; have hg0 := hg; (try simp at hg); first | exact op_loadRef evG rfl rfl rfl | exact op_loadPtr evG memT (by rfl) (by rfl) (by rfl))) ?_)
  (first | refine JL_i0 rfl rfl rfl (fun hg => (by have hg0 := hg; (try simp at hg); exact op_call Try.call75 (isSize_ok _) ⟨evS, trivial⟩)) ?_ | refine JL_i rfl rfl rfl (fun hp hg => (by have hpg := Bool.and_eq_true_iff.2 ⟨hp, hg⟩; have hg0 := hg; (try simp at hg); exact op_call Try.call75 (isSize_ok _) ⟨evS, trivial⟩)) ?_)
  (first | refine JL_i0 rfl rfl rfl (fun hg => (by have hg0 := hg; (try simp at hg); exact op_not evG)) ?_ | refine JL_i rfl rfl rfl (fun hp hg => (by have hpg := Bool.and_eq_true_iff.2 ⟨hp, hg⟩; have hg0 := hg; (try simp at hg); exact op_not evG)) ?_)
  refine JL_1 rfl (op_or (Ev.rfl' rfl) rfl (fun h => by first | exact SubL.rfl' | exact SubL.iteT (by first | (rw [h]; rfl) | (simp_all; done)) SubL.rfl')) ?_
  refine JL_1 rfl (op_move rfl) ?_
  (first | refine JL_i0 rfl rfl rfl (fun hg => (by have hg0 := hg; (try simp at hg); first | exact op_fieldPtr (k := 3) evG rfl rfl rfl rfl | exact op_fieldRefN (k := 3) evG rfl rfl rfl rfl nrmT)) ?_ | refine JL_i rfl rfl rfl (fun hp hg => (by have hpg := Bool.and_eq_true_iff.2 ⟨hp, hg⟩; have hg0 := hg; (try simp at hg); first | exact op_fieldPtr (k := 3) evG rfl rfl rfl rfl | exact op_fieldRefN (k := 3) evG rfl rfl rfl rfl nrmT)) ?_)
  (first | refine JL_i0 rfl rfl rfl (fun hg => (by have hg0 := hg; (try simp at hg); first | exact op_loadRef evG rfl rfl rfl | exact op_loadPtr evG memT (by rfl) (by rfl) (by rfl))) ?_ | refine JL_i rfl rfl rfl (fun hp hg => (by have hpg := Bool.and_eq_true_iff.2 ⟨hp, hg⟩; have hg0 := hg; (try simp at hg); first | exact op_loadRef evG rfl rfl rfl | exact op_loadPtr evG memT (by rfl) (by rfl) (by rfl))) ?_)
  (first | refine JL_i0 rfl rfl rfl (fun hg => (by have hg0 := hg; (try simp at hg); exact op_lss evG evG)) ?_ | refine JL_i rfl rfl rfl (fun hp hg => (by have hpg := Bool.and_eq_true_iff.2 ⟨hp, hg⟩; have hg0 := hg; (try simp at hg); exact op_lss evG evG)) ?_)
  refine JL_1 rfl (op_or (Ev.rfl' rfl) rfl (fun h => by first | exact SubL.rfl' | exact SubL.iteT (by first | (rw [h]; rfl) | (simp_all; done)) SubL.rfl')) ?_
  refine JL_1 rfl (op_move rfl) ?_
  (first | refine JL_i0 rfl rfl rfl (fun hg => (by have hg0 := hg; (try simp at hg); first | exact op_fieldPtr (k := 3) evG rfl rfl rfl rfl | exact op_fieldRefN (k := 3) evG rfl rfl rfl rfl nrmT)) ?_ | refine JL_i rfl rfl rfl (fun hp hg => (by have hpg := Bool.and_eq_true_iff.2 ⟨hp, hg⟩; have hg0 := hg; (try simp at hg); first | exact op_fieldPtr (k := 3) evG rfl rfl rfl rfl | exact op_fieldRefN (k := 3) evG rfl rfl rfl rfl nrmT)) ?_)
  (first | refine JL_i0 rfl rfl rfl (fun hg => (by have hg0 := hg; (try simp at hg); first | exact op_loadRef evG rfl rfl rfl | exact op_loadPtr evG memT (by rfl) (by rfl) (by rfl))) ?_ | refine JL_i rfl rfl rfl (fun hp hg => (by have hpg := Bool.and_eq_true_iff.2 ⟨hp, hg⟩; have hg0 := hg; (try simp at hg); first | exact op_loadRef evG rfl rfl rfl | exact op_loadPtr evG memT (by rfl) (by rfl) (by rfl))) ?_)
  (first | refine JL_i0 rfl rfl rfl (fun hg => (by have hg0 := hg; (try simp at hg); exact op_geq evG evG)) ?_ | refine JL_i rfl rfl rfl (fun hp hg => (by have hpg := Bool.and_eq_true_iff.2 ⟨hp, hg⟩; have hg0 := hg; (try simp at hg); exact op_geq evG evG)) ?_)
  refine JL_1 rfl (op_or (Ev.rfl' rfl) rfl (fun h => by first | exact SubL.rfl' | exact SubL.iteT (by first | (rw [h]; rfl) | (simp_all; done)) SubL.rfl')) ?_
  refine JL_1 rfl (op_move rfl) ?_
  (first | refine JL_i0 rfl rfl rfl (fun hg => (by have hg0 := hg; (try simp at hg); first | exact op_fieldPtr (k := 3) evG rfl rfl rfl rfl | exact op_fieldRefN (k := 3) evG rfl rfl rfl rfl nrmT)) ?_ | refine JL_i rfl rfl rfl (fun hp hg => (by have hpg := Bool.and_eq_true_iff.2 ⟨hp, hg⟩; have hg0 := hg; (try simp at hg); first | exact op_fieldPtr (k := 3) evG rfl rfl rfl rfl | exact op_fieldRefN (k := 3) evG rfl rfl rfl rfl nrmT)) ?_)
  (first | refine JL_i0 rfl rfl rfl (fun hg => (by have hg0 := hg; (try simp at hg); first | exact op_loadRef evG rfl rfl rfl | exact op_loadPtr evG memT (by rfl) (by rfl) (by rfl))) ?_ | refine JL_i rfl rfl rfl (fun hp hg => (by have hpg := Bool.and_eq_true_iff.2 ⟨hp, hg⟩; have hg0 := hg; (try simp at hg); first | exact op_loadRef evG rfl rfl rfl | exact op_loadPtr evG memT (by rfl) (by rfl) (by rfl))) ?_)
  (first | refine JL_i0 rfl rfl rfl (fun hg => (by have hg0 := hg; (try simp at hg); first | exact op_fieldPtr (k := 0) evG rfl rfl rfl rfl | exact op_fieldRefN (k := 0) evG rfl rfl rfl rfl nrmT)) ?_ | refine JL_i rfl rfl rfl (fun hp hg => (by have hpg := Bool.and_eq_true_iff.2 ⟨hp, hg⟩; have hg0 := hg; (try simp at hg); first | exact op_fieldPtr (k := 0) evG rfl rfl rfl rfl | exact op_fieldRefN (k := 0) evG rfl rfl rfl rfl nrmT)) ?_)
  (first | refine JL_i0 rfl rfl rfl (fun hg => (by have hg0 := hg; (try simp at hg); first | exact op_loadRef evG rfl rfl rfl | exact op_loadPtr evG memT (by rfl) (by rfl) (by rfl))) ?_ | refine JL_i rfl rfl rfl (fun hp hg => (by have hpg := Bool.and_eq_true_iff.2 ⟨hp, hg⟩; have hg0 := hg; (try simp at hg); first | exact op_loadRef evG rfl rfl rfl | exact op_loadPtr evG memT (by rfl) (by rfl) (by rfl))) ?_)
  (first | refine JL_i0 rfl rfl rfl (fun hg => (by have hg0 := hg; (try simp at hg); exact op_eql evG evG)) ?_ | refine JL_i rfl rfl rfl (fun hp hg => (by have hpg := Bool.and_eq_true_iff.2 ⟨hp, hg⟩; have hg0 := hg; (try simp at hg); exact op_eql evG evG)) ?_)
  refine JL_1 rfl (op_or (Ev.rfl' rfl) rfl (fun h => by first | exact SubL.rfl' | exact SubL.iteT (by first | (rw [h]; rfl) | (simp_all; done)) SubL.rfl')) ?_
  refine JL_nil ?_
  refine JQ_then ?_
  refine JC_cond (Ev.rfl' rfl) (fun h1 => ?_) (fun h1 => ?_)
  · exact absurd h1 (by rw [hcb, hz]; simp; omega)
  clear h1
  refine JC_skip (JQ_then (JC_seq ?_))
  refine JC_region ?_
  refine JL_1 rfl (by first | exact op_fieldPtr (k := 0) (Ev.rfl' rfl) rfl rfl rfl rfl | exact op_fieldRefN (k := 0) (Ev.rfl' rfl) rfl rfl rfl rfl nrmT) ?_
  refine JL_1 rfl (by first | exact op_loadRef (Ev.rfl' rfl) rfl rfl rfl | exact op_loadPtr (Ev.rfl' rfl) memT (by rfl) (by rfl) (by rfl)) ?_
  refine JL_1 rfl (op_add (Ev.rfl' rfl) (Ev.rfl' rfl) wrapT) ?_
  refine JL_1 rfl (op_buildSlice (size := 1) (qs := [(0, _)]) rfl rfl rfl ⟨⟨rfl, _, (Ev.rfl' rfl), cellsT⟩, trivial⟩ (by rfl) (by rfl)) ?_
  refine JL_1 rfl (op_assign rfl) ?_
  refine JL_nil ?_
  refine JQ_then (JC_seq (JC_seq ?_))
  refine JC_region ?_
  refine JL_1 rfl (by first | exact op_fieldPtr (k := 3) (Ev.rfl' rfl) rfl rfl rfl rfl | exact op_fieldRefN (k := 3) (Ev.rfl' rfl) rfl rfl rfl rfl nrmT) ?_
  refine JL_1 rfl (by first | exact op_loadRef (Ev.rfl' rfl) rfl rfl rfl | exact op_loadPtr (Ev.rfl' rfl) memT (by rfl) (by rfl) (by rfl)) ?_
  refine JL_1 rfl (op_neq (Ev.rfl' rfl) (Ev.rfl' rfl)) ?_
  refine JL_nil ?_
  refine JQ_then ?_
  refine JC_cond (Ev.rfl' rfl) (fun h4 => ?_) (fun h4 => ?_)
  · exact absurd h4 (by simp)
  refine JC_skip (JQ_then (JC_seq (JC_seq ?_)))
  refine JC_region ?_
  refine JL_1 rfl (op_move rfl) ?_
  refine JL_1 rfl (op_move rfl) ?_
  refine JL_1 rfl (op_call Try.call79 (missing_ok _ [98 + (cl : Int)] hm1) ⟨evS, ⟨evS, trivial⟩⟩) ?_
  refine JL_1 rfl (op_assign rfl) ?_
  refine JL_nil ?_
  refine JQ_then (JC_seq ?_)
  refine JC_region ?_
  refine JL_1 rfl (op_move rfl) ?_
  refine JL_1 rfl (by first | exact op_len (Ev.rfl' rfl) rfl | exact op_lenLit (Ev.rfl' rfl) rfl) ?_
  refine JL_1 rfl (op_gtr (Ev.rfl' rfl) (Ev.rfl' rfl)) ?_
  refine JL_nil ?_
  refine JQ_then ?_
  refine JC_cond (Ev.rfl' rfl) (fun h7 => ?_) (fun h7 => ?_)
  · have g : 0 < (missV ks [98 + (cl : Int)]).length := by have := of_decide_eq_true h7; omega
    have e : acqV ks cl inc lines = (missV ks [98 + (cl : Int)], [], 0, 0, false) := by unfold acqV; rw [if_pos g]
    rw [e]
    refine JC_seq ?_
    refine JC_region ?_
    refine JL_1 rfl (op_move rfl) ?_
    refine JL_1 rfl (op_assign rfl) ?_
    refine JL_1 rfl (op_assign rfl) ?_
    refine JL_1 rfl (op_assign rfl) ?_
    refine JL_1 rfl (op_assign rfl) ?_
    refine JL_1 rfl (op_assign rfl) ?_
    refine JL_nil ?_
    refine JQ_then (JC_ret (JQ_then_ret ?_))
    refine JQ_buf0 25 tPg ?_
    exact JQ_retP (Bs := [IsSl tI64 (missV ks [98 + (cl : Int)]), Is (.slice none 0 0), Is (.int .i64 (0 : Nat)), Is (.int .i64 0), Is (.bool false)]) Try.results38 ⟨⟨_, rfl, subT⟩, ⟨⟨_, rfl, subT⟩, ⟨⟨_, rfl, subT⟩, ⟨⟨_, rfl, subT⟩, ⟨⟨_, rfl, subT⟩, trivial⟩⟩⟩⟩⟩ (none, 0) SubL.rfl' lessT
  have g : ¬ 0 < (missV ks [98 + (cl : Int)]).length := by have := of_decide_eq_false h7; omega
  clear h7
  refine JC_skip (JQ_then (JC_seq ?_))
  refine JC_region ?_
  refine JL_1 rfl (op_move rfl) ?_
  refine JL_1 rfl (by first | exact op_fieldPtr (k := 0) (Ev.rfl' rfl) rfl rfl rfl rfl | exact op_fieldRefN (k := 0) (Ev.rfl' rfl) rfl rfl rfl rfl nrmT) ?_
  refine JL_1 rfl (by first | exact op_loadRef (Ev.rfl' rfl) rfl rfl rfl | exact op_loadPtr (Ev.rfl' rfl) memT (by rfl) (by rfl) (by rfl)) ?_
  refine JL_1 rfl (by first | ((refine op_call Try.call80 (node_ok _ _ ?_) ⟨evS, ⟨evS, trivial⟩⟩); all_goals (first | omega))) ?_
  refine JL_1 rfl (op_move rfl) ?_
  refine JL_1 rfl (op_extract (Ev.rfl' rfl) rfl) ?_
  refine JL_1 rfl (op_extract (Ev.rfl' rfl) rfl) ?_
  refine JL_1 rfl (op_extract (Ev.rfl' rfl) rfl) ?_
  refine JL_1 rfl (op_extract (Ev.rfl' rfl) rfl) ?_
  (refine JL_n rfl (op_allocN rfl nrmT rfl) ?_; intro i10)
  (refine JL_n rfl (op_allocN rfl nrmT rfl) ?_; intro i11)
  refine JL_s0 (op_storeN (Ev.rfl' rfl) (Ev.rfl' rfl) cellsT replT nrmT (by rfl) (by rfl) (by rfl)) ?_
  refine JL_s0 (op_storeN (Ev.rfl' rfl) (Ev.rfl' rfl) cellsT replT nrmT (by rfl) (by rfl) (by rfl)) ?_
  refine JL_1 rfl (op_assign rfl) ?_
  refine JL_1 rfl (op_assign rfl) ?_
  refine JL_nil ?_
  refine JQ_then (JC_seq (JC_seq ?_))
  refine JC_region ?_
  refine JL_1 rfl (op_move rfl) ?_
  refine JL_1 rfl (op_neq (Ev.rfl' rfl) (Ev.rfl' rfl)) ?_
  refine JL_nil ?_
  refine JQ_then ?_
  refine JC_cond (Ev.rfl' rfl) (fun h10 => ?_) (fun h10 => ?_)
  · have g2 : (nodeV ks cl).2.2.2 ≠ 0 := by simpa using h10
    have e : acqV ks cl inc lines = ([], [], 0, (nodeV ks cl).2.2.2, true) := by unfold acqV; rw [if_neg g, if_pos g2]
    rw [e]
    refine JC_seq ?_
    refine JC_region ?_
    refine JL_1 rfl (op_move rfl) ?_
    refine JL_1 rfl (op_assign rfl) ?_
    refine JL_1 rfl (op_assign rfl) ?_
    refine JL_1 rfl (op_assign rfl) ?_
    refine JL_1 rfl (op_assign rfl) ?_
    refine JL_1 rfl (op_assign rfl) ?_
    refine JL_nil ?_
    refine JQ_then (JC_ret (JQ_then_ret ?_))
    refine JQ_buf0 25 tPg ?_
    exact JQ_retP (Bs := [IsSl tI64 [], Is (.slice none 0 0), Is (.int .i64 (0 : Nat)), Is (.int .i64 (nodeV ks cl).2.2.2), Is (.bool true)]) Try.results38 ⟨⟨_, rfl, subT⟩, ⟨⟨_, rfl, subT⟩, ⟨⟨_, rfl, subT⟩, ⟨⟨_, rfl, subT⟩, ⟨⟨_, rfl, subT⟩, trivial⟩⟩⟩⟩⟩ (none, 0) SubL.rfl' lessT
  have g2 : ¬ (nodeV ks cl).2.2.2 ≠ 0 := by simpa using h10
  clear h10
  refine JC_skip (JQ_then (JC_seq ?_))
  refine JC_region ?_
  (refine JL_n rfl (op_allocN rfl nrmT rfl) ?_; intro i13)
  refine JL_nil ?_
  refine JQ_then (JC_seq ?_)
  refine JC_region ?_
  (refine JL_n rfl (op_allocN rfl nrmT rfl) ?_; intro i14)
  refine JL_nil ?_
  refine JQ_then (JC_seq (JC_seq ?_))
  refine JC_region ?_
  refine JL_1 rfl (by first | exact op_fieldPtr (k := 3) (Ev.rfl' rfl) rfl rfl rfl rfl | exact op_fieldRefN (k := 3) (Ev.rfl' rfl) rfl rfl rfl rfl nrmT) ?_
  refine JL_1 rfl (by first | exact op_loadRef (Ev.rfl' rfl) rfl rfl rfl | exact op_loadPtr (Ev.rfl' rfl) memT (by rfl) (by rfl) (by rfl)) ?_
  refine JL_1 rfl (op_neq (Ev.rfl' rfl) (Ev.rfl' rfl)) ?_
  refine JL_nil ?_
  refine JQ_then ?_
  refine JC_cond (Ev.rfl' rfl) (fun h14 => ?_) (fun h14 => ?_)
  · exact absurd h14 (by simp)
  refine JC_skip (JQ_then (JC_seq ?_))
  refine JC_region ?_
  refine JL_1 rfl (by first | exact op_fieldPtr (k := 2) (Ev.rfl' rfl) rfl rfl rfl rfl | exact op_fieldRefN (k := 2) (Ev.rfl' rfl) rfl rfl rfl rfl nrmT) ?_
  refine JL_1 rfl (by first | exact op_loadRef (Ev.rfl' rfl) rfl rfl rfl | exact op_loadPtr (Ev.rfl' rfl) memT (by rfl) (by rfl) (by rfl)) ?_
  refine JL_1 rfl (op_call Try.call29 (CountN_ok _) ⟨evS, trivial⟩) ?_
  refine JL_1 rfl (op_assign rfl) ?_
  refine JL_nil ?_
  refine JQ_then (JC_seq (JC_seq ?_))
  refine JC_region ?_
  refine JL_1 rfl (by first | exact op_fieldPtr (k := 3) (Ev.rfl' rfl) rfl rfl rfl rfl | exact op_fieldRefN (k := 3) (Ev.rfl' rfl) rfl rfl rfl rfl nrmT) ?_
  refine JL_1 rfl (by first | exact op_loadRef (Ev.rfl' rfl) rfl rfl rfl | exact op_loadPtr (Ev.rfl' rfl) memT (by rfl) (by rfl) (by rfl)) ?_
  refine JL_1 rfl (op_eql (Ev.rfl' rfl) (Ev.rfl' rfl)) ?_
  refine JL_nil ?_
  refine JQ_then ?_
  refine JC_cond (Ev.rfl' rfl) (fun h19 => ?_) (fun h19 => ?_)
  · refine JC_seq (JC_seq ?_)
    refine JC_region ?_
    refine JL_1 rfl (op_move rfl) ?_
    refine JL_1 rfl (op_move rfl) ?_
    refine JL_1 rfl (op_call Try.call82 (owned_ok (511#32) _ hcn) ⟨evS, ⟨evS, trivial⟩⟩) ?_
    refine JL_1 rfl (by first | ((refine op_call Try.call81 (headerLines_ok _ ?_) ⟨evS, trivial⟩); all_goals (first | omega))) ?_
    refine JL_1 rfl (op_call Try.call79 (missing_ok _ _ (h2m g)) ⟨evS, ⟨evS, trivial⟩⟩) ?_
    refine JL_1 rfl (op_assign rfl) ?_
    refine JL_nil ?_
    refine JQ_then (JC_seq ?_)
    refine JC_region ?_
    refine JL_1 rfl (op_move rfl) ?_
    refine JL_1 rfl (by first | exact op_len (Ev.rfl' rfl) rfl | exact op_lenLit (Ev.rfl' rfl) rfl) ?_
    refine JL_1 rfl (op_gtr (Ev.rfl' rfl) (Ev.rfl' rfl)) ?_
    refine JL_nil ?_
    refine JQ_then ?_
    refine JC_cond (Ev.rfl' rfl) (fun h21 => ?_) (fun h21 => ?_)
    · have g3 : 0 < (missV ks (hdrL lines)).length := by have := of_decide_eq_true h21; omega
      have e : acqV ks cl inc lines = (missV ks (hdrL lines), [], 0, 0, false) := by unfold acqV; rw [if_neg g, if_neg g2, if_pos g3]
      rw [e]
      refine JC_seq ?_
      refine JC_region ?_
      refine JL_1 rfl (op_move rfl) ?_
      refine JL_1 rfl (op_assign rfl) ?_
      refine JL_1 rfl (op_assign rfl) ?_
      refine JL_1 rfl (op_assign rfl) ?_
      refine JL_1 rfl (op_assign rfl) ?_
      refine JL_1 rfl (op_assign rfl) ?_
      refine JL_nil ?_
      refine JQ_then (JC_ret (JQ_then_ret (JQ_then_ret ?_)))
      refine JQ_buf0 25 tPg ?_
      exact JQ_retP (Bs := [IsSl tI64 (missV ks (hdrL lines)), Is (.slice none 0 0), Is (.int .i64 (0 : Nat)), Is (.int .i64 0), Is (.bool false)]) Try.results38 ⟨⟨_, rfl, subT⟩, ⟨⟨_, rfl, subT⟩, ⟨⟨_, rfl, subT⟩, ⟨⟨_, rfl, subT⟩, ⟨⟨_, rfl, subT⟩, trivial⟩⟩⟩⟩⟩ (none, 0) SubL.rfl' lessT
    have g3 : ¬ 0 < (missV ks (hdrL lines)).length := by have := of_decide_eq_false h21; omega
    clear h21
    refine JC_skip (JQ_then (JC_seq ?_))
    refine JC_region ?_
    refine JL_1 rfl (op_assign rfl) ?_
    refine JL_nil ?_
    refine JQ_then (JC_seq ?_)
    refine JC_region ?_
    refine JL_1 rfl (op_move rfl) ?_
    refine JL_1 rfl (by first | exact op_fieldPtr (k := 0) (Ev.rfl' rfl) rfl rfl rfl rfl | exact op_fieldRefN (k := 0) (Ev.rfl' rfl) rfl rfl rfl rfl nrmT) ?_
    refine JL_1 rfl (by first | exact op_loadRef (Ev.rfl' rfl) rfl rfl rfl | exact op_loadPtr (Ev.rfl' rfl) memT (by rfl) (by rfl) (by rfl)) ?_
    refine JL_1 rfl (op_move rfl) ?_
    refine JL_1 rfl (by first | ((refine op_call Try.call83 (unowned_ok _ _ _ ?_ hcn) ⟨evS, ⟨evS, ⟨evS, trivial⟩⟩⟩); all_goals (first | omega))) ?_
    refine JL_1 rfl (op_move rfl) ?_
    refine JL_1 rfl (op_extract (Ev.rfl' rfl) rfl) ?_
    refine JL_1 rfl (op_extract (Ev.rfl' rfl) rfl) ?_
    refine JL_1 rfl (op_assign rfl) ?_
    refine JL_1 rfl (op_assign rfl) ?_
    refine JL_nil ?_
    refine JQ_then (JC_seq ?_)
    refine JC_region ?_
    refine JL_1 rfl (op_move rfl) ?_
    refine JL_1 rfl (op_not (Ev.rfl' rfl)) ?_
    refine JL_nil ?_
    refine JQ_then ?_
    refine JC_cond (Ev.rfl' rfl) (fun h25 => ?_) (fun h25 => ?_)
    · have g4 : ¬ sB ks cl (countN lines) = true := by simpa using h25
      have e : acqV ks cl inc lines = ([], [], 0, 12, true) := by unfold acqV; rw [if_neg g, if_neg g2, if_neg g3, if_neg g4]
      rw [e]
      refine JC_seq ?_
      refine JC_region ?_
      refine JL_1 rfl (op_assign rfl) ?_
      refine JL_1 rfl (op_assign rfl) ?_
      refine JL_1 rfl (op_assign rfl) ?_
      refine JL_1 rfl (op_assign rfl) ?_
      refine JL_1 rfl (op_assign rfl) ?_
      refine JL_nil ?_
      refine JQ_then (JC_ret (JQ_then_ret ?_))
      refine JQ_buf0 25 tPg ?_
      exact JQ_retP (Bs := [IsSl tI64 [], Is (.slice none 0 0), Is (.int .i64 (0 : Nat)), Is (.int .i64 12), Is (.bool true)]) Try.results38 ⟨⟨_, rfl, subT⟩, ⟨⟨_, rfl, subT⟩, ⟨⟨_, rfl, subT⟩, ⟨⟨_, rfl, subT⟩, ⟨⟨_, rfl, subT⟩, trivial⟩⟩⟩⟩⟩ (none, 0) SubL.rfl' lessT
    have g4 : sB ks cl (countN lines) = true := by simpa using h25
    obtain ⟨hfr, hsn⟩ := sB_yes g4
    obtain ⟨q1, q2, q3⟩ := free_have hfr
    have hlt' := hlt g4
    have e : acqV ks cl inc lines = ([], [mineW ks cl inc (sV ks cl (countN lines)), headW ks cl (sV ks cl (countN lines))], sV ks cl (countN lines), 0, true) := by unfold acqV; rw [if_neg g, if_neg g2, if_neg g3, if_pos g4]
    rw [e]
    unfold mineW headW at hlt' ⊢
    obtain ⟨s, hs⟩ : ∃ s, sV ks cl (countN lines) = s := ⟨_, rfl⟩
    rw [hs] at hlt' q1 q2 q3 hsn
    rw [hs]
    clear h25
    refine JC_skip (JQ_then (JC_seq ?_))
    refine JC_region ?_
    refine JL_1 rfl (op_move rfl) ?_
    refine JL_1 rfl (op_move rfl) ?_
    refine JL_1 rfl (op_call Try.call84 (header_ok _ _) ⟨evS, ⟨evS, trivial⟩⟩) ?_
    refine JL_1 rfl (op_move rfl) ?_
    refine JL_1 rfl (op_extract (Ev.rfl' rfl) rfl) ?_
    refine JL_1 rfl (op_extract (Ev.rfl' rfl) rfl) ?_
    refine JL_1 rfl (op_extract (Ev.rfl' rfl) rfl) ?_
    refine JL_1 rfl (op_extract (Ev.rfl' rfl) rfl) ?_
    (refine JL_n rfl (op_allocN rfl nrmT rfl) ?_; intro i18)
    (refine JL_n rfl (op_allocN rfl nrmT rfl) ?_; intro i19)
    refine JL_s0 (op_storeN (Ev.rfl' rfl) (Ev.rfl' rfl) cellsT replT nrmT (by rfl) (by rfl) (by rfl)) ?_
    refine JL_s0 (op_storeN (Ev.rfl' rfl) (Ev.rfl' rfl) cellsT replT nrmT (by rfl) (by rfl) (by rfl)) ?_
    refine JL_1 rfl (op_assign rfl) ?_
    refine JL_1 rfl (op_assign rfl) ?_
    refine JL_nil ?_
    refine JQ_then (JC_seq (JC_block (JC_seq ?_)))
    refine JC_region ?_
    refine JL_1 rfl (op_move rfl) ?_
    refine JL_1 rfl (op_not (Ev.rfl' rfl)) ?_
    refine JL_1 rfl (op_assign rfl) ?_
    refine JL_nil ?_
    refine JQ_then ?_
    refine JC_cond (Ev.rfl' rfl) (fun h32 => ?_) (fun h32 => ?_)
    · exact absurd h32 (by rw [q1]; simp)
    refine JC_seq ?_
    refine JC_region ?_
    refine JL_1 rfl (op_move rfl) ?_
    refine JL_1 rfl (op_neq (Ev.rfl' rfl) (Ev.rfl' rfl)) ?_
    refine JL_1 rfl (op_assign rfl) ?_
    refine JL_nil ?_
    refine JQ_then ?_
    refine JC_cond (Ev.rfl' rfl) (fun h34 => ?_) (fun h34 => ?_)
    · exact absurd h34 (by rw [q2]; simp)
    refine JC_seq ?_
    refine JC_region ?_
    refine JL_1 rfl (by first | exact op_fieldPtr (k := 0) (Ev.rfl' rfl) rfl rfl rfl rfl | exact op_fieldRefN (k := 0) (Ev.rfl' rfl) rfl rfl rfl rfl nrmT) ?_
    refine JL_1 rfl (by first | exact op_loadRef (Ev.rfl' rfl) rfl rfl rfl | exact op_loadPtr (Ev.rfl' rfl) memT (by rfl) (by rfl) (by rfl)) ?_
    refine JL_1 rfl (by first | exact op_fieldPtr (k := 3) (Ev.rfl' rfl) rfl rfl rfl rfl | exact op_fieldRefN (k := 3) (Ev.rfl' rfl) rfl rfl rfl rfl nrmT) ?_
    refine JL_1 rfl (by first | exact op_loadRef (Ev.rfl' rfl) rfl rfl rfl | exact op_loadPtr (Ev.rfl' rfl) memT (by rfl) (by rfl) (by rfl)) ?_
    refine JL_1 rfl (op_neq (Ev.rfl' rfl) (Ev.rfl' rfl)) ?_
    refine JL_1 rfl (op_assign rfl) ?_
    refine JL_nil ?_
    refine JQ_then ?_
    refine JC_cond (Ev.rfl' rfl) (fun h36 => ?_) (fun h36 => ?_)
    · exact absurd h36 (by rw [q3]; simp)
    refine JC_skip (JQ_block (JQ_then (JC_seq ?_)))
    refine JC_region ?_
    refine JL_1 rfl (by first | exact op_fieldPtr (k := 2) (Ev.rfl' rfl) rfl rfl rfl rfl | exact op_fieldRefN (k := 2) (Ev.rfl' rfl) rfl rfl rfl rfl nrmT) ?_
    refine JL_1 rfl (by first | exact op_loadRef (Ev.rfl' rfl) rfl rfl rfl | exact op_loadPtr (Ev.rfl' rfl) memT (by rfl) (by rfl) (by rfl)) ?_
    refine JL_1 rfl (op_move rfl) ?_
    refine JL_1 rfl (op_conv (Ev.rfl' rfl) rfl rfl convT) ?_
    refine JL_1 rfl (by first | exact op_shlU32 (k := _) ev32 (Ev.rfl' rfl) (by first | omega | exact UV_nonneg _) idxT | exact op_shl (Ev.rfl' rfl) (Ev.rfl' rfl) (by first | omega | exact UV_nonneg _) rfl) ?_
    refine JL_1 rfl (by first | exact op_bits ev32 ev32 (by simp) (or_u32 _ _) | exact op_bits (Ev.rfl' rfl) (Ev.rfl' rfl) (by simp) rfl) ?_
    refine JL_1 rfl (by first | exact op_fieldPtr (k := 2) (Ev.rfl' rfl) rfl rfl rfl rfl | exact op_fieldRefN (k := 2) (Ev.rfl' rfl) rfl rfl rfl rfl nrmT) ?_
    refine JL_s0 (op_storeN (Ev.rfl' rfl) (Ev.rfl' rfl) cellsT replT nrmT (by rfl) (by rfl) (by rfl)) ?_
    refine JL_nil ?_
    refine JQ_then (JC_seq ?_)
    refine JC_region ?_
    refine JL_1 rfl (by first | exact op_fieldPtr (k := 1) (Ev.rfl' rfl) rfl rfl rfl rfl | exact op_fieldRefN (k := 1) (Ev.rfl' rfl) rfl rfl rfl rfl nrmT) ?_
    refine JL_1 rfl (by first | exact op_loadRef (Ev.rfl' rfl) rfl rfl rfl | exact op_loadPtr (Ev.rfl' rfl) memT (by rfl) (by rfl) (by rfl)) ?_
    refine JL_1 rfl (by first | exact op_fieldPtr (k := 3) (Ev.rfl' rfl) rfl rfl rfl rfl | exact op_fieldRefN (k := 3) (Ev.rfl' rfl) rfl rfl rfl rfl nrmT) ?_
    refine JL_s0 (op_storeN (Ev.rfl' rfl) (Ev.rfl' rfl) cellsT replT nrmT (by rfl) (by rfl) (by rfl)) ?_
    refine JL_nil ?_
    refine JQ_then (JC_seq ?_)
    refine JC_region ?_
    refine JL_1 rfl (by first | exact op_fieldPtr (k := 0) (Ev.rfl' rfl) rfl rfl rfl rfl | exact op_fieldRefN (k := 0) (Ev.rfl' rfl) rfl rfl rfl rfl nrmT) ?_
    refine JL_1 rfl (by first | exact op_loadRef (Ev.rfl' rfl) rfl rfl rfl | exact op_loadPtr (Ev.rfl' rfl) memT (by rfl) (by rfl) (by rfl)) ?_
    refine JL_1 rfl (by first | exact op_fieldPtr (k := 0) (Ev.rfl' rfl) rfl rfl rfl rfl | exact op_fieldRefN (k := 0) (Ev.rfl' rfl) rfl rfl rfl rfl nrmT) ?_
    refine JL_s0 (op_storeN (Ev.rfl' rfl) (Ev.rfl' rfl) cellsT replT nrmT (by rfl) (by rfl) (by rfl)) ?_
    refine JL_nil ?_
    refine JQ_then (JC_seq ?_)
    refine JC_region ?_
    refine JL_1 rfl (by first | exact op_loadRefsN (n := 9) (Ev.rfl' rfl) rfl rfl rfl (by rfl) nrmT | exact op_loadPtrsN (n := 9) (Ev.rfl' rfl) memT (by rfl) (by rfl) (by rfl) (by rfl) nrmT) ?_
    refine JL_1 rfl (by first | exact op_loadRefsN (n := 16) (Ev.rfl' rfl) rfl rfl rfl (by rfl) nrmT | exact op_loadPtrsN (n := 16) (Ev.rfl' rfl) memT (by rfl) (by rfl) (by rfl) (by rfl) nrmT) ?_
    refine JL_1 rfl (op_call Try.call24 (WriteNode_ok _ (ndS (nodeV ks cl).2.1 s inc)) ⟨evS, ⟨evS, trivial⟩⟩) ?_
    refine JL_1 rfl (op_move rfl) ?_
    refine JL_1 rfl (op_extract (Ev.rfl' rfl) rfl) ?_
    refine JL_1 rfl (op_extract (Ev.rfl' rfl) rfl) ?_
    refine JL_s0 (op_storeN (Ev.rfl' rfl) (Ev.rfl' rfl) cellsT replT nrmT (by rfl) (by rfl) (by rfl)) ?_
    refine JL_nil ?_
    refine JQ_then (JC_seq ?_)
    refine JC_region ?_
    refine JL_1 rfl (by first | exact op_loadRefsN (n := 9) (Ev.rfl' rfl) rfl rfl rfl (by rfl) nrmT | exact op_loadPtrsN (n := 9) (Ev.rfl' rfl) memT (by rfl) (by rfl) (by rfl) (by rfl) nrmT) ?_
    refine JL_1 rfl (by first | exact op_loadRefsN (n := 2) (Ev.rfl' rfl) rfl rfl rfl (by rfl) nrmT | exact op_loadPtrsN (n := 2) (Ev.rfl' rfl) memT (by rfl) (by rfl) (by rfl) (by rfl) nrmT) ?_
    refine JL_1 rfl (op_call Try.call22 (WriteHeader_ok _ (hdS (headV ks s).2.1 cl)) ⟨evS, ⟨evS, trivial⟩⟩) ?_
    refine JL_1 rfl (op_move rfl) ?_
    refine JL_1 rfl (op_extract (Ev.rfl' rfl) rfl) ?_
    refine JL_1 rfl (op_extract (Ev.rfl' rfl) rfl) ?_
    refine JL_s0 (op_storeN (Ev.rfl' rfl) (Ev.rfl' rfl) cellsT replT nrmT (by rfl) (by rfl) (by rfl)) ?_
    refine JL_nil ?_
    refine JQ_then (JC_seq ?_)
    obtain ⟨a, ha⟩ : ∃ a, (writeN (nodeV ks cl).1 (ndS (nodeV ks cl).2.1 s inc)).1 = a := ⟨_, rfl⟩
    rw [ha] at hlt' ⊢
    obtain ⟨b, hb⟩ : ∃ b, (writeH (headV ks s).1 (hdS (headV ks s).2.1 cl)).1 = b := ⟨_, rfl⟩
    rw [hb] at hlt' ⊢
    refine JC_region ?_
    refine JL_1 rfl (by first | exact op_loadRefsN (n := 9) (Ev.rfl' rfl) rfl rfl rfl (by rfl) nrmT | exact op_loadPtrsN (n := 9) (Ev.rfl' rfl) memT (by rfl) (by rfl) (by rfl) (by rfl) nrmT) ?_
    refine JL_1 rfl (by first | exact op_loadRefsN (n := 9) (Ev.rfl' rfl) rfl rfl rfl (by rfl) nrmT | exact op_loadPtrsN (n := 9) (Ev.rfl' rfl) memT (by rfl) (by rfl) (by rfl) (by rfl) nrmT) ?_
    (refine JL_n rfl (op_buildSliceO (T := tPg) ([a, b]) (size := 9) (Rs := [a, b].flatMap tPg.cells) (qs := [(0, tPg.cells a), (1, tPg.cells b)]) rfl rfl rfl ⟨⟨rfl, _, (Ev.rfl' rfl), cellsT⟩, ⟨⟨rfl, _, (Ev.rfl' rfl), cellsT⟩, trivial⟩⟩ (by rfl) (by rfl) SubLs.rfl') ?_; intro i191)
    refine JL_1 rfl (op_assign rfl) ?_
    refine JL_nil ?_
    refine JQ_then (JC_seq (JC_seq ?_))
    refine JC_region ?_
    refine JL_1 rfl (by first | exact op_fieldPtr (k := 3) (Ev.rfl' rfl) rfl rfl rfl rfl | exact op_fieldRefN (k := 3) (Ev.rfl' rfl) rfl rfl rfl rfl nrmT) ?_
    refine JL_1 rfl (by first | exact op_loadRef (Ev.rfl' rfl) rfl rfl rfl | exact op_loadPtr (Ev.rfl' rfl) memT (by rfl) (by rfl) (by rfl)) ?_
    refine JL_1 rfl (op_neq (Ev.rfl' rfl) (Ev.rfl' rfl)) ?_
    refine JL_nil ?_
    refine JQ_then ?_
    refine JC_cond (Ev.rfl' rfl) (fun h44 => ?_) (fun h44 => ?_)
    · exact absurd h44 (by simp)
    refine JC_skip (JQ_then (JC_seq ?_))
    refine JC_region ?_
    refine JL_1 rfl (op_move rfl) ?_
    (refine JL_s rfl (by first | ((refine op_callT drop1T Try.call77 (ascending_ok [a, b] 2 (some ⟨i191, 0, none⟩, 2) rfl ?_) ⟨evS, trivial⟩); all_goals (first | simp))) ?_; intro i213)
    refine JL_1 rfl (op_move rfl) ?_
    refine JL_1 rfl (op_assign rfl) ?_
    refine JL_1 rfl (op_assign rfl) ?_
    refine JL_1 rfl (op_assign rfl) ?_
    refine JL_1 rfl (op_assign rfl) ?_
    refine JL_1 rfl (op_assign rfl) ?_
    refine JL_nil ?_
    refine JQ_then (JC_ret ?_)
    obtain ⟨ys, hy1, hy2⟩ := i213
    dsimp only
    have hy := two_asc hlt' hy1 hy2
    subst hy
    exact JQ_retP (Bs := [IsSl tI64 [], Is (slV 2 (some ⟨i191, 0, none⟩, 2)), Is (.int .i64 (s : Nat)), Is (.int .i64 0), Is (.bool true)]) Try.results38 ⟨⟨_, rfl, subT⟩, ⟨⟨_, rfl, subT⟩, ⟨⟨_, rfl, subT⟩, ⟨⟨_, rfl, subT⟩, ⟨⟨_, rfl, subT⟩, trivial⟩⟩⟩⟩⟩ (some ⟨i191, 0, none⟩, 2) SubL.rfl' lessT
  exact absurd h19 (by simp)
end Go.Proofs.Ytpfojangcgffkaa
