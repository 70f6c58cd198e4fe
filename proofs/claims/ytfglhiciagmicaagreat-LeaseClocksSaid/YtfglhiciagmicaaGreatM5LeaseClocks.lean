/- Texts of this claim, laid together (part 5): walks of functions, what they compute, and plain laws of it. Own work. -/
import Derived.Test.YtfglhiciagmicaaGreatM4LeaseClocks
/- Contracts: a word of a node; a piece is executed; a verb is posted on a pair. Own work. -/
namespace Go.Proofs.YtfglhiciagmicaaGreat
open Go.RowKit
set_option linter.unusedVariables false
set_option linter.unusedSimpArgs false
set_option maxRecDepth 100000
/-! ### Rules -/
section
variable {P : Program} {c : Ctx} {N : Nat} {E : Env} {L : List Item} {Q : Exit → Act → World → Prop}
/-- A result of which it is known that it is one of many. -/
theorem JQ_retV {fn : Func} {ι : Type} {R : ι → VP} {L' : List Item} {rs : List ResultVar} {Bs : List VP} (hr : fn.results = rs.toArray) (hE : RetE P E L rs Bs) (hB : SubL L (retVP Bs) (VEx R)) (hL : SubP L' L) (hD0 : c.ds = [] := by first | assumption | exact And.right (by assumption)) : JQ c N E L (bodyPost P fn (Post c R (fun _ => L'))) .ret := by
  intro φ a w st
  obtain ⟨vs, h1, h2⟩ := run_results (A := look E) st hE
  have hlen := h2.len
  have hrun : (results fn a.tmps).run P w = .ok (if h : vs.toArray.size = 1 then vs.toArray[0] else .tuple vs.toArray) w := by
    unfold results
    rw [hr, List.mapM_toArray]
    simp only [Sem.run_bind, Sem.run_map, Sem.run_pure]
    erw [h1]
    rfl
  have key : (retVP Bs).ok φ (if h : vs.toArray.size = 1 then vs.toArray[0] else .tuple vs.toArray) := by
    match Bs, vs, h2 with
    | [], [], _ => exact ⟨[], rfl, trivial⟩
    | [B], [v], h => exact h.1
    | B :: B' :: Bs, v :: v' :: vs, h => exact ⟨_, rfl, h⟩
  obtain ⟨i, hi⟩ := hB _ _ st.mem.mem.facts key
  exact bodyPost_ret hrun (st.defers.trans hD0) ⟨i, _, φ, rfl, hi, st.mem.lessP hL⟩
end
theorem names_nil {M : List Item} : ∀ b, b ∈ names ([] : List Item) → b ∈ names M := fun b hb => by simp [names] at hb
theorem names_cons {x : Item} {L M : List Item} (h : ∃ z, z ∈ M ∧ z.at_ = x.at_) (h2 : ∀ b, b ∈ names L → b ∈ names M) : ∀ b, b ∈ names (x :: L) → b ∈ names M := fun b hb => by
  obtain ⟨it, h3, h4⟩ := mem_names.1 hb
  rcases List.mem_cons.1 h3 with rfl | h3
  · obtain ⟨z, h5, h6⟩ := h
    exact mem_names.2 ⟨z, h5, h6.trans h4⟩
  · exact h2 b (mem_names.2 ⟨it, h3, h4⟩)
theorem namesT {X : List Nat} {L M : List Item} {p : Prop} (hX : X = names L ∧ p) (h : ∀ b, b ∈ names L → b ∈ names M := by
    (repeat (refine names_cons (by first
      | exact ⟨_, .head _, rfl⟩ | exact ⟨_, .tail _ (.head _), rfl⟩ | exact ⟨_, .tail _ (.tail _ (.head _)), rfl⟩ | exact ⟨_, .tail _ (.tail _ (.tail _ (.head _))), rfl⟩
      | exact ⟨_, .tail _ (.tail _ (.tail _ (.tail _ (.head _)))), rfl⟩ | exact ⟨_, .tail _ (.tail _ (.tail _ (.tail _ (.tail _ (.head _))))), rfl⟩ | exact ⟨_, .tail _ (.tail _ (.tail _ (.tail _ (.tail _ (.tail _ (.head _)))))), rfl⟩) ?_)); exact names_nil) : ∀ b, b ∈ X → b ∈ names M := fun b hb => h b (by rw [← hX.1]; exact hb)
section
variable {P : Program} {c : Ctx} {A : Nat → Option VP} {L : List Item} {d : Option Tmp} {ty : TypeId} {pos : String} {af : Array Edge} {g : Option (Nat × Bool)} {x y : Operand} {t u : TypeId}
theorem op_addW (hx : Ev A L x WAny) (hy : Ev A L y WAny) : OpP P c ⟨d, .binOp .add t x y u, ty, pos, af, g⟩ A L WAny :=
  opp fun φ a w hm he => by
    obtain ⟨d1, h1⟩ : WAny.ok φ (a.eval x) := he x (by simp [Op.operands]) _ hx
    obtain ⟨d2, h2⟩ : WAny.ok φ (a.eval y) := he y (by simp [Op.operands]) _ hy
    have h1' : a.eval x = .int .u64 (UV d1) := h1
    have h2' : a.eval y = .int .u64 (UV d2) := h2
    refine ⟨.int .u64 (UV (d1 + d2)), ?_, ⟨d1 + d2, rfl⟩⟩
    have h3 : (eqGuard .add t x y (.int .u64 (UV d1)) (.int .u64 (UV d2))).run P w = .ok () w := rfl
    have h4 := add_u64 (t := t) d1 d2
    simp only [execOp, h1', h2', Sem.run_bind, h3, Result.andThen_ok, h4, Sem.run_pure]
end
-- bodegaref6.at: function 109
theorem at_ok (b : Bool) (i : Int) : FnP Tryz.prog 109 [IsRef [IsSl tAU (List.replicate 784 ()), Is (.bool b)], Is (.int .i64 i)] WAny := by
  refine FnP.enter Tryz.func109 Tryz.ntmps109 rfl rfl ?_
  intro c hX
  refine JC_seq ?_
  refine JC_region ?_
  refine JL_1 rfl (op_assign rfl) ?_
  refine JL_nil ?_
  refine JQ_then (JC_seq (JC_seq ?_))
  refine JC_region ?_
  refine JL_1 rfl (op_move rfl) ?_
  refine JL_1 rfl (op_lss (Ev.rfl' rfl) (Ev.rfl' rfl)) ?_
  refine JL_1 rfl (op_move rfl) ?_
  (refine JL_i0 rfl rfl rfl (fun hg => (by have hg0 := hg; (try simp at hg); exact op_moveE (Ev.rfl' rfl))) ?_)
  (refine JL_i0 rfl rfl rfl (fun hg => (by have hg0 := hg; (try simp at hg); exact op_moveE (Ev.rfl' rfl))) ?_)
  (refine JL_i0 rfl rfl rfl (fun hg => (by have hg0 := hg; (try simp at hg); exact op_nilRef evG)) ?_)
  (refine JL_i0 rfl rfl rfl (fun hg => (by have hg0 := hg; (try simp at hg); exact op_fieldRefN (k := 0) evG rfl rfl rfl rfl nrmT)) ?_)
  (refine JL_i0 rfl rfl rfl (fun hg => (by have hg0 := hg; (try simp at hg); exact op_loadRef evG rfl rfl rfl)) ?_)
  (refine JL_i0 rfl rfl rfl (fun hg => (by have hg0 := hg; (try simp at hg); exact op_len evG rfl)) ?_)
  (refine JL_i0 rfl rfl rfl (fun hg => (by have hg0 := hg; (try simp at hg); exact op_geq evG evG)) ?_)
  refine JL_1 rfl (op_or (Ev.rfl' rfl) rfl (fun h => by exact SubL.iteT (by (rw [h]; rfl)) SubL.rfl')) ?_
  refine JL_nil ?_
  refine JQ_then ?_
  refine JC_cond (Ev.rfl' rfl) (fun h1 => ?_) (fun h1 => ?_)
  · refine JC_seq ?_
    refine JC_region ?_
    refine JL_1 rfl (op_assign rfl) ?_
    refine JL_nil ?_
    refine JQ_then (JC_ret (JQ_then_ret ?_))
    exact JQ_ret1 Tryz.results109 rfl () (fun φ v _ h => ⟨0#64, h⟩) (List.nil_sublist _)
  have hb : 0 ≤ i ∧ i < 784 := by simp at h1; omega
  have hx : (List.replicate 784 ())[i.toNat]? = some () := by rw [List.getElem?_replicate]; exact if_pos (by omega)
  refine JC_skip (JQ_then (JC_seq ?_))
  refine JC_region ?_
  refine JL_1 rfl (op_move rfl) ?_
  refine JL_1 rfl (by exact op_nilRef (Ev.rfl' rfl)) ?_
  refine JL_1 rfl (by exact op_fieldRefN (k := 0) (Ev.rfl' rfl) rfl rfl rfl rfl nrmT) ?_
  refine JL_1 rfl (by exact op_loadRef (Ev.rfl' rfl) rfl rfl rfl) ?_
  refine JL_1 rfl (op_move rfl) ?_
  refine JL_1 rfl (by exact op_index (j := i.toNat) (Ev.rfl' rfl) (Ev.rfl' rfl) rfl rfl (by omega) hx) ?_
  refine JL_1 rfl (by exact op_loadRef (Ev.rfl' rfl) rfl rfl rfl) ?_
  refine JL_1 rfl (op_assign rfl) ?_
  refine JL_nil ?_
  refine JQ_then (JC_ret ?_)
  exact JQ_ret1 Tryz.results109 rfl () SubL.rfl' (List.nil_sublist _)
theorem rep_part {m l h : Nat} (h1 : l ≤ h) (h2 : h ≤ m) : ((List.replicate m ()).take h).drop l = List.replicate (h - l) () := by
  rw [List.take_replicate, List.drop_replicate, Nat.min_eq_left h2]
-- bodegaref6.execute: function 111
set_option maxHeartbeats 2000000 in
theorem execute_ok (n : Nat) (nb : WA) (nds : List FN) (k : Nat) (d : FN) (hz : nds[k]? = some d) (v : GVerb) (pc : Pc) (h1 : 0 ≤ pc.at_ ∧ 1 ≤ pc.n ∧ pc.at_ + pc.n ≤ 784) (h2 : v.kind = 2 → v.at_ ≤ pc.at_ ∧ pc.at_ + pc.n ≤ v.at_ + (v.words.length : Nat)) (hv : 0 ≤ v.at_) :
    Fn Tryz.prog 111 [Is (bpt nb (k * tFN.size)), IsGVerb v, IsPc pc] [buf (slV n nb) 177 tFN nds, wb 83 784 d.w]
    (fun ws : {ws : List (BitVec 64) // ws.length ≤ 784} => IsSl tU64 ws.1) (fun _ => [buf (slV n nb) 177 tFN nds, wb 83 784 d.w]) := by
  have hn0 := nds_pos hz
  obtain ⟨lo, hlo⟩ : ∃ lo : Nat, (lo : Int) = pc.at_ := ⟨pc.at_.toNat, by omega⟩
  obtain ⟨m, hm⟩ : ∃ m : Nat, (m : Int) = pc.n := ⟨pc.n.toNat, by omega⟩
  have hrep := rep_part (m := 784) (l := lo) (h := lo + m) (by omega) (by omega)
  refine Fn.enterN Tryz.func111 Tryz.ntmps111 rfl rfl ?_
  intro c hX
  refine JC_seq ?_
  refine JC_region ?_
  (refine JL_n rfl (op_box (Ev.rfl' rfl) cellsT) ?_; intro i4)
  (refine JL_n rfl (op_box (Ev.rfl' rfl) cellsT) ?_; intro i5)
  refine JL_1 rfl (op_assign rfl) ?_
  refine JL_nil ?_
  refine JQ_then (JC_seq ?_)
  refine JC_dr rfl (by kernel_rfl) ?_
  refine JD_stretch 13 (by kernel_rfl) ?_
  refine JW_1 (op_move rfl) ?_
  refine JW_1 (by exact op_nilBuf (Ev.rfl' rfl) memT lenT) ?_
  refine JW_1 (by exact op_fieldBuf (k := 0) (Ev.rfl' rfl) memT lenT rfl rfl rfl rfl) ?_
  refine JW_1 (by exact op_loadBuf (Ev.rfl' rfl) memT hz rfl rfl (by rfl)) ?_
  refine JW_1 (by exact op_fieldPtr (k := 0) (Ev.rfl' rfl) rfl rfl rfl rfl) ?_
  refine JW_1 (by exact op_loadPtr (Ev.rfl' rfl) memT (by rfl) (by rfl) (by rfl)) ?_
  refine JW_1 (by exact op_fieldPtr (k := 0) (Ev.rfl' rfl) rfl rfl rfl rfl) ?_
  refine JW_1 (by exact op_loadPtr (Ev.rfl' rfl) memT (by rfl) (by rfl) (by rfl)) ?_
  refine JW_1 (by exact op_fieldPtr (k := 1) (Ev.rfl' rfl) rfl rfl rfl rfl) ?_
  refine JW_1 (by exact op_loadPtr (Ev.rfl' rfl) memT (by rfl) (by rfl) (by rfl)) ?_
  refine JW_1 (op_add (Ev.rfl' rfl) (Ev.rfl' rfl) wrapT) ?_
  refine JW_1 (op_sliceMid (l := lo) (h := (lo + m)) (T := tAU) (xs := (List.replicate 784 ())) (Ev.rfl' rfl) memT rfl rfl ⟨_, _, (Ev.rfl' rfl), (show _ = ((lo : Nat) : Int) by omega)⟩ ⟨_, _, (Ev.rfl' rfl), (show _ = (((lo + m) : Nat) : Int) by omega)⟩ (by omega) (by omega)) ?_
  refine JW_n (op_appNilPart (l := lo) (h := (lo + m)) (T := tAU) (xs := (List.replicate 784 ())) (Ev.rfl' rfl) (Ev.rfl' rfl) memT pureV_au (by exact appT rfl rfl rfl) (by omega) lenT lenT) ?_
  refine ⟨rfl, ?_⟩
  intro i21
  refine JD_1 (by kernel_rfl) rfl rfl (op_assign rfl) ?_
  refine JD_end ?_
  refine JQ_then (JC_seq (JC_seq ?_))
  rw [hrep, Nat.add_sub_cancel_left, List.length_replicate]
  refine JC_region ?_
  refine JL_1 rfl (by exact op_fieldPtr (k := 0) (Ev.rfl' rfl) rfl rfl rfl rfl) ?_
  refine JL_1 rfl (by exact op_loadPtr (Ev.rfl' rfl) memT (by rfl) (by rfl) (by rfl)) ?_
  refine JL_nil ?_
  refine JQ_then (JC_block (JC_seq ?_))
  refine JC_region ?_
  refine JL_1 rfl (op_eql (Ev.rfl' rfl) (Ev.rfl' rfl)) ?_
  refine JL_1 rfl (op_assign rfl) ?_
  refine JL_nil ?_
  refine JQ_then ?_
  refine JC_cond (Ev.rfl' rfl) (fun h3 => ?_) (fun h3 => ?_)
  · refine JC_seq ?_
    refine JC_region ?_
    refine JL_1 rfl (op_move rfl) ?_
    refine JL_1 rfl (op_assign rfl) ?_
    refine JL_nil ?_
    refine JQ_then (JC_ret (JQ_block_ret (JQ_then_ret ?_)))
    refine JQ_freezeX (T := tAU) (xs := List.replicate m ()) replT (namesT hX) ?_
    exact JQ_retV (Bs := [IsSl tAU (List.replicate m ())]) Tryz.results111 ⟨⟨_, rfl, SubL.fact memT⟩, trivial⟩ (fun φ u hf h => by obtain ⟨⟨ws, hw⟩, h3⟩ := SubL.words φ u hf h; exact ⟨⟨ws, by omega⟩, h3⟩) lessT
  refine JC_seq ?_
  refine JC_region ?_
  refine JL_1 rfl (op_eql (Ev.rfl' rfl) (Ev.rfl' rfl)) ?_
  refine JL_1 rfl (op_assign rfl) ?_
  refine JL_nil ?_
  refine JQ_then ?_
  refine JC_cond (Ev.rfl' rfl) (fun h5 => ?_) (fun h5 => ?_)
  · have hk2 : v.kind = 2 := by simpa using h5
    have h2' := h2 hk2
    refine JC_seq (JC_seq ?_)
    refine JC_region ?_
    refine JL_1 rfl (op_assign rfl) ?_
    refine JL_nil ?_
    refine JQ_then (JC_block ?_)
    refine JC_loopP (fun i : Nat => i ≤ m) (fun i => [(0, Is (bpt nb (k * tFN.size))), (4, Is (.pointer (some ⟨i4, 0, none⟩))), (5, Is (.pointer (some ⟨i5, 0, none⟩))), (8, Is (.int .i64 (i : Nat)))]) (fun i => [blk i5 197 (tPc.cells pc), blk i4 91 (tGVerb.cells v), buf (slV n nb) 177 tFN nds, wb 83 784 d.w]) (fun i => m - i) 0 (Nat.zero_le _) esubT lessT ?_
    intro i hi
    refine JC_seq (JC_seq ?_)
    refine JC_region ?_
    refine JL_1 rfl (op_move rfl) ?_
    refine JL_1 rfl (by exact op_fieldPtr (k := 1) (Ev.rfl' rfl) rfl rfl rfl rfl) ?_
    refine JL_1 rfl (by exact op_loadPtr (Ev.rfl' rfl) memT (by rfl) (by rfl) (by rfl)) ?_
    refine JL_1 rfl (op_lss (Ev.rfl' rfl) (Ev.rfl' rfl)) ?_
    refine JL_nil ?_
    refine JQ_then ?_
    refine JC_cond (Ev.rfl' rfl) (fun h7 => ?_) (fun h7 => ?_)
    · have hlt : i < m := by have := of_decide_eq_true h7; omega
      clear h7
      obtain ⟨j, hj⟩ : ∃ j : Nat, (j : Int) = pc.at_ - v.at_ + (i : Nat) := ⟨(pc.at_ - v.at_ + (i : Nat)).toNat, by omega⟩
      have hx := gs 0#64 (show j < v.words.length by omega)
      refine JC_skip (JQ_then (JC_seq (JC_block ?_)))
      refine JC_dr rfl (by kernel_rfl) ?_
      refine JD_stretch 20 (by kernel_rfl) ?_
      refine JW_1 (op_move rfl) ?_
      refine JW_1 (by exact op_nilBuf (Ev.rfl' rfl) memT lenT) ?_
      refine JW_1 (by exact op_fieldBuf (k := 0) (Ev.rfl' rfl) memT lenT rfl rfl rfl rfl) ?_
      refine JW_1 (by exact op_loadBuf (Ev.rfl' rfl) memT hz rfl rfl (by rfl)) ?_
      refine JW_1 (by exact op_fieldPtr (k := 0) (Ev.rfl' rfl) rfl rfl rfl rfl) ?_
      refine JW_1 (by exact op_loadPtr (Ev.rfl' rfl) memT (by rfl) (by rfl) (by rfl)) ?_
      refine JW_1 (op_move rfl) ?_
      refine JW_1 (op_add (Ev.rfl' rfl) (Ev.rfl' rfl) wrapT) ?_
      refine JW_1 (by exact op_fieldPtr (k := 6) (Ev.rfl' rfl) rfl rfl rfl rfl) ?_
      refine JW_1 (by exact op_loadPtr (Ev.rfl' rfl) memT (by rfl) (by rfl) (by rfl)) ?_
      refine JW_1 (by exact op_fieldPtr (k := 0) (Ev.rfl' rfl) rfl rfl rfl rfl) ?_
      refine JW_1 (by exact op_loadPtr (Ev.rfl' rfl) memT (by rfl) (by rfl) (by rfl)) ?_
      refine JW_1 (by exact op_fieldPtr (k := 2) (Ev.rfl' rfl) rfl rfl rfl rfl) ?_
      refine JW_1 (by exact op_loadPtr (Ev.rfl' rfl) memT (by rfl) (by rfl) (by rfl)) ?_
      refine JW_1 (op_sub (Ev.rfl' rfl) (Ev.rfl' rfl) wrapT) ?_
      refine JW_1 (op_move rfl) ?_
      refine JW_1 (op_add (Ev.rfl' rfl) (Ev.rfl' rfl) wrapT) ?_
      refine JW_1 (by exact op_index (j := j) (Ev.rfl' rfl) (Ev.rfl' rfl) rfl rfl (by omega) hx) ?_
      refine JW_1 (by exact op_loadRef (Ev.rfl' rfl) rfl rfl rfl) ?_
      refine JW_1 (op_indexW (k := (lo + i)) (Ev.rfl' rfl) memT (Ev.rfl' rfl) rfl rfl idxT (by omega)) ?_
      refine ⟨rfl, ?_⟩
      refine JD_s0 (by kernel_rfl) rfl (op_storeW1 (n := 0) (Ev.rfl' rfl) memT (by omega) (Ev.rfl' rfl) (by exact cells_word) rfl) ?_
      refine JD_end ?_
      refine JQ_block (JQ_then ?_)
      refine JC_region ?_
      refine JL_1 rfl (op_move rfl) ?_
      refine JL_1 rfl (op_add (Ev.rfl' rfl) (Ev.rfl' rfl) wrapT) ?_
      refine JL_1 rfl (op_assign rfl) ?_
      refine JL_nil ?_
      exact JQ_roundP (i + 1) (by omega) (by omega) esubT lessT
    refine JC_exit (JQ_then_exit (JQ_then_exit (JQ_hit (JQ_then (JC_seq ?_)))))
    refine JC_region ?_
    refine JL_1 rfl (op_assign rfl) ?_
    refine JL_nil ?_
    refine JQ_then (JC_ret (JQ_block_ret (JQ_then_ret ?_)))
    exact JQ_retP (Bs := [IsSl tU64 []]) Tryz.results111 ⟨⟨_, rfl, SubL.nil⟩, trivial⟩ ⟨[], by simp⟩ SubL.rfl' lessT
  refine JC_seq ?_
  refine JC_region ?_
  refine JL_1 rfl (op_eql (Ev.rfl' rfl) (Ev.rfl' rfl)) ?_
  refine JL_1 rfl (op_assign rfl) ?_
  refine JL_nil ?_
  refine JQ_then ?_
  refine JC_cond (Ev.rfl' rfl) (fun h11 => ?_) (fun h11 => ?_)
  · refine JC_seq ?_
    refine JC_dr rfl (by kernel_rfl) ?_
    refine JD_stretch 5 (by kernel_rfl) ?_
    refine JW_1 (op_move rfl) ?_
    refine JW_1 (by exact op_indexBuf (k := 0) (Ev.rfl' rfl) memT (Ev.rfl' rfl) rfl rfl idxT lenT) ?_
    refine JW_1 (by exact op_loadBuf0 (Ev.rfl' rfl) memT (show (List.replicate m ())[0]? = some () by rw [List.getElem?_replicate]; exact if_pos (by omega)) rfl rfl (by rfl)) ?_
    refine JW_1 (by exact op_fieldPtr (k := 4) (Ev.rfl' rfl) rfl rfl rfl rfl) ?_
    refine JW_1 (by exact op_loadPtr (Ev.rfl' rfl) memT (by rfl) (by rfl) (by rfl)) ?_
    refine ⟨rfl, ?_⟩
    refine JD_ex 59 rfl ?_; intro w59
    refine JD_1 (by kernel_rfl) rfl rfl (op_eql (Ev.rfl' rfl) (Ev.rfl' rfl)) ?_
    refine JD_end ?_
    refine JQ_then ?_
    refine JC_cond (Ev.rfl' rfl) (fun h12 => ?_) (fun h12 => ?_)
    · refine JC_dr rfl (by kernel_rfl) ?_
      refine JD_stretch 9 (by kernel_rfl) ?_
      refine JW_1 (op_move rfl) ?_
      refine JW_1 (by exact op_nilBuf (Ev.rfl' rfl) memT lenT) ?_
      refine JW_1 (by exact op_fieldBuf (k := 0) (Ev.rfl' rfl) memT lenT rfl rfl rfl rfl) ?_
      refine JW_1 (by exact op_loadBuf (Ev.rfl' rfl) memT hz rfl rfl (by rfl)) ?_
      refine JW_1 (by exact op_fieldPtr (k := 0) (Ev.rfl' rfl) rfl rfl rfl rfl) ?_
      refine JW_1 (by exact op_loadPtr (Ev.rfl' rfl) memT (by rfl) (by rfl) (by rfl)) ?_
      refine JW_1 (by exact op_fieldPtr (k := 5) (Ev.rfl' rfl) rfl rfl rfl rfl) ?_
      refine JW_1 (by exact op_loadPtr (Ev.rfl' rfl) memT (by rfl) (by rfl) (by rfl)) ?_
      refine JW_1 (op_indexW (k := lo) (Ev.rfl' rfl) memT (Ev.rfl' rfl) rfl rfl idxT (by omega)) ?_
      refine ⟨rfl, ?_⟩
      refine JD_s0 (by kernel_rfl) rfl (op_storeW1 (n := 0) (Ev.rfl' rfl) memT (by omega) (Ev.rfl' rfl) (by exact cells_word) rfl) ?_
      refine JD_end ?_
      refine JQ_block (JQ_then (JC_seq ?_))
      refine JC_region ?_
      refine JL_1 rfl (op_move rfl) ?_
      refine JL_1 rfl (op_assign rfl) ?_
      refine JL_nil ?_
      refine JQ_then (JC_ret ?_)
      refine JQ_freezeX (T := tAU) (xs := List.replicate m ()) replT (namesT hX) ?_
      exact JQ_retV (Bs := [IsSl tAU (List.replicate m ())]) Tryz.results111 ⟨⟨_, rfl, SubL.fact memT⟩, trivial⟩ (fun φ u hf h => by obtain ⟨⟨ws, hw⟩, h3⟩ := SubL.words φ u hf h; exact ⟨⟨ws, by omega⟩, h3⟩) lessT
    refine JC_skip (JQ_block (JQ_then (JC_seq ?_)))
    refine JC_region ?_
    refine JL_1 rfl (op_move rfl) ?_
    refine JL_1 rfl (op_assign rfl) ?_
    refine JL_nil ?_
    refine JQ_then (JC_ret ?_)
    refine JQ_freezeX (T := tAU) (xs := List.replicate m ()) replT (namesT hX) ?_
    exact JQ_retV (Bs := [IsSl tAU (List.replicate m ())]) Tryz.results111 ⟨⟨_, rfl, SubL.fact memT⟩, trivial⟩ (fun φ u hf h => by obtain ⟨⟨ws, hw⟩, h3⟩ := SubL.words φ u hf h; exact ⟨⟨ws, by omega⟩, h3⟩) lessT
  refine JC_seq ?_
  refine JC_region ?_
  refine JL_1 rfl (op_eql (Ev.rfl' rfl) (Ev.rfl' rfl)) ?_
  refine JL_1 rfl (op_assign rfl) ?_
  refine JL_nil ?_
  refine JQ_then ?_
  refine JC_cond (Ev.rfl' rfl) (fun h14 => ?_) (fun h14 => ?_)
  · refine JC_dr rfl (by kernel_rfl) ?_
    refine JD_stretch 13 (by kernel_rfl) ?_
    refine JW_1 (op_move rfl) ?_
    refine JW_1 (by exact op_nilBuf (Ev.rfl' rfl) memT lenT) ?_
    refine JW_1 (by exact op_fieldBuf (k := 0) (Ev.rfl' rfl) memT lenT rfl rfl rfl rfl) ?_
    refine JW_1 (by exact op_loadBuf (Ev.rfl' rfl) memT hz rfl rfl (by rfl)) ?_
    refine JW_1 (by exact op_fieldPtr (k := 0) (Ev.rfl' rfl) rfl rfl rfl rfl) ?_
    refine JW_1 (by exact op_loadPtr (Ev.rfl' rfl) memT (by rfl) (by rfl) (by rfl)) ?_
    refine JW_1 (op_move rfl) ?_
    refine JW_1 (by exact op_indexBuf (k := 0) (Ev.rfl' rfl) memT (Ev.rfl' rfl) rfl rfl idxT lenT) ?_
    refine JW_1 (by exact op_loadBuf0 (Ev.rfl' rfl) memT (show (List.replicate m ())[0]? = some () by rw [List.getElem?_replicate]; exact if_pos (by omega)) rfl rfl (by rfl)) ?_
    refine JW_1 (by exact op_fieldPtr (k := 5) (Ev.rfl' rfl) rfl rfl rfl rfl) ?_
    refine JW_1 (by exact op_loadPtr (Ev.rfl' rfl) memT (by rfl) (by rfl) (by rfl)) ?_
    refine JW_1 (op_addW (Ev.rfl' rfl) (Ev.sub rfl SubL.wany)) ?_
    refine JW_1 (op_indexW (k := lo) (Ev.rfl' rfl) memT (Ev.rfl' rfl) rfl rfl idxT (by omega)) ?_
    refine ⟨rfl, ?_⟩
    refine JD_s0 (by kernel_rfl) rfl (op_storeW1 (n := 0) (Ev.rfl' rfl) memT (by omega) (Ev.rfl' rfl) (by exact cells_wany) rfl) ?_
    refine JD_end ?_
    refine JQ_block (JQ_then (JC_seq ?_))
    refine JC_region ?_
    refine JL_1 rfl (op_move rfl) ?_
    refine JL_1 rfl (op_assign rfl) ?_
    refine JL_nil ?_
    refine JQ_then (JC_ret ?_)
    refine JQ_freezeX (T := tAU) (xs := List.replicate m ()) replT (namesT hX) ?_
    exact JQ_retV (Bs := [IsSl tAU (List.replicate m ())]) Tryz.results111 ⟨⟨_, rfl, SubL.fact memT⟩, trivial⟩ (fun φ u hf h => by obtain ⟨⟨ws, hw⟩, h3⟩ := SubL.words φ u hf h; exact ⟨⟨ws, by omega⟩, h3⟩) lessT
  refine JC_skip (JQ_block (JQ_then (JC_seq ?_)))
  refine JC_region ?_
  refine JL_1 rfl (op_move rfl) ?_
  refine JL_1 rfl (op_assign rfl) ?_
  refine JL_nil ?_
  refine JQ_then (JC_ret ?_)
  refine JQ_freezeX (T := tAU) (xs := List.replicate m ()) replT (namesT hX) ?_
  exact JQ_retV (Bs := [IsSl tAU (List.replicate m ())]) Tryz.results111 ⟨⟨_, rfl, SubL.fact memT⟩, trivial⟩ (fun φ u hf h => by obtain ⟨⟨ws, hw⟩, h3⟩ := SubL.words φ u hf h; exact ⟨⟨ws, by omega⟩, h3⟩) lessT
end Go.Proofs.YtfglhiciagmicaaGreat

/- Contracts: a verb is posted on a pair; a pair executes one piece. Own work. -/
namespace Go.Proofs.YtfglhiciagmicaaGreat
open Go.RowKit
set_option linter.unusedVariables false
set_option linter.unusedSimpArgs false
set_option maxRecDepth 100000
theorem ValidV0_ok (v : GVerb) (nodes lines : Int) (h : GoodV v nodes lines) : FnP Tryz.prog 91 [IsGVerb v, Is (.int .i64 nodes), Is (.int .i64 lines)] (Is (.int .i64 0)) := (ValidVR_ok v nodes lines).weak fun φ u ⟨⟨z, hz⟩, k⟩ => by
  have : z = 0 := hz.2 h
  subst this; exact k
def Pr.withQ (p : Pr) (q : List Pd) : Pr := ⟨p.client, p.inc, p.node, q⟩
-- (*bodegaref6.Pair).Post: function 92
set_option maxHeartbeats 2000000 in
theorem PairPost_ok (n : Nat) (pb : WA) (prs : List Pr) (j : Nat) (pr : Pr) (hz : prs[j]? = some pr) (v : GVerb) (hv : GoodV v 5 98) (hnode : v.node = pr.node) (hq : pr.q.length < 1024) (hw : v.words.length ≤ 1024) (slot : Int) :
    Fn Tryz.prog 92 [Is (bpt pb (j * tPr.size)), IsGVerb v, Is (.int .i64 98), Is (.int .i64 slot)] [buf (slV n pb) 170 tPr prs]
    (fun _ : Unit => Is (.int .i64 0)) (fun _ => [buf (slV n pb) 170 tPr (prs.set j (pr.withQ (pr.q ++ [⟨v, 0, [], slot⟩])))]) := by
  have hn0 : 0 < prs.length := by have := (List.getElem?_eq_some_iff.1 hz).1; omega
  refine Fn.enterN Tryz.func92 Tryz.ntmps92 rfl rfl ?_
  intro c hX
  refine JC_seq ?_
  refine JC_region ?_
  (refine JL_n rfl (op_box (Ev.rfl' rfl) cellsT) ?_; intro i5)
  refine JL_1 rfl (op_assign rfl) ?_
  refine JL_nil ?_
  refine JQ_then (JC_seq (JC_seq ?_))
  refine JC_region ?_
  refine JL_1 rfl (by exact op_loadPtrsN (n := 9) (Ev.rfl' rfl) memT (by rfl) (by rfl) (by rfl) (by rfl) nrmT) ?_
  refine JL_1 rfl (op_move rfl) ?_
  refine JL_1 rfl (op_call Tryz.call91 (ValidV0_ok _ _ _ hv) ⟨evS, ⟨evS, ⟨evS, trivial⟩⟩⟩) ?_
  refine JL_1 rfl (op_assign rfl) ?_
  refine JL_nil ?_
  refine JQ_then (JC_seq ?_)
  refine JC_region ?_
  refine JL_1 rfl (op_move rfl) ?_
  refine JL_1 rfl (op_neq (Ev.rfl' rfl) (Ev.rfl' rfl)) ?_
  refine JL_nil ?_
  refine JQ_then ?_
  refine JC_cond (Ev.rfl' rfl) (fun h2 => ?_) (fun h2 => ?_)
  · exact absurd h2 (by decide)
  refine JC_skip (JQ_then (JC_seq (JC_seq ?_)))
  refine JC_dr rfl (by kernel_rfl) ?_
  refine JD_stretch 7 (by kernel_rfl) ?_
  refine JW_1 (by exact op_fieldPtr (k := 1) (Ev.rfl' rfl) rfl rfl rfl rfl) ?_
  refine JW_1 (by exact op_loadPtr (Ev.rfl' rfl) memT (by rfl) (by rfl) (by rfl)) ?_
  refine JW_1 (op_move rfl) ?_
  refine JW_1 (by exact op_nilBuf (Ev.rfl' rfl) memT lenT) ?_
  refine JW_1 (by exact op_fieldBuf (k := 2) (Ev.rfl' rfl) memT lenT rfl rfl rfl rfl) ?_
  refine JW_1 (by exact op_loadBuf (Ev.rfl' rfl) memT hz rfl rfl (by rfl)) ?_
  refine JW_1 (op_neq (Ev.rfl' rfl) (Ev.rfl' rfl)) ?_
  refine ⟨rfl, ?_⟩
  refine JD_end ?_
  refine JQ_then ?_
  refine JC_cond (Ev.rfl' rfl) (fun h4 => ?_) (fun h4 => ?_)
  · exact absurd h4 (by simp [hnode])
  refine JC_skip (JQ_then (JC_seq (JC_seq ?_)))
  refine JC_region ?_
  refine JL_1 rfl (op_move rfl) ?_
  refine JL_1 rfl (by exact op_nilBuf (Ev.rfl' rfl) memT lenT) ?_
  refine JL_1 rfl (by exact op_fieldBuf (k := 3) (Ev.rfl' rfl) memT lenT rfl rfl rfl rfl) ?_
  refine JL_1 rfl (by exact op_loadBuf (Ev.rfl' rfl) memT hz rfl rfl (by rfl)) ?_
  refine JL_1 rfl (by exact op_len (Ev.rfl' rfl) rfl) ?_
  refine JL_1 rfl (op_geq (Ev.rfl' rfl) (Ev.rfl' rfl)) ?_
  refine JL_nil ?_
  refine JQ_then ?_
  refine JC_cond (Ev.rfl' rfl) (fun h6 => ?_) (fun h6 => ?_)
  · exact absurd (of_decide_eq_true h6) (by omega)
  refine JC_skip (JQ_then (JC_seq ?_))
  refine JC_region ?_
  refine JL_1 rfl (by exact op_fieldPtr (k := 6) (Ev.rfl' rfl) rfl rfl rfl rfl) ?_
  refine JL_1 rfl (by exact op_loadPtr (Ev.rfl' rfl) memT (by rfl) (by rfl) (by rfl)) ?_
  (refine JL_n rfl (op_appNil (T := tU64) (Ev.rfl' rfl) evS (by exact appT rfl rfl rfl) lenT) ?_; intro i31)
  refine JL_1 rfl (by exact op_fieldPtr (k := 6) (Ev.rfl' rfl) rfl rfl rfl rfl) ?_
  refine JL_s0 (op_storeN (Ev.rfl' rfl) (Ev.rfl' rfl) cellsT replT nrmT (by rfl) (by rfl) (by rfl)) ?_
  refine JL_nil ?_
  refine JQ_then (JC_seq ?_)
  refine JC_freezeX (T := tU64) (xs := v.words) replT (namesT hX) ?_
  refine JC_dr rfl (by kernel_rfl) ?_
  refine JD_stretch 13 (by kernel_rfl) ?_
  refine JW_1 (op_move rfl) ?_
  refine JW_1 (op_move rfl) ?_
  refine JW_1 (by exact op_nilBuf (Ev.rfl' rfl) memT lenT) ?_
  refine JW_1 (by exact op_fieldBuf (k := 3) (Ev.rfl' rfl) memT lenT rfl rfl rfl rfl) ?_
  refine JW_1 (by exact op_loadBuf (Ev.rfl' rfl) memT hz rfl rfl (by rfl)) ?_
  refine JW_n (op_appNil (T := tPd) (Ev.rfl' rfl) evS (by exact appT rfl rfl rfl) lenT) ?_
  refine JW_1 (by exact op_loadPtrsN (n := 9) (Ev.rfl' rfl) memT (by rfl) (by rfl) (by rfl) (by rfl) nrmT) ?_
  refine JW_1 (op_move rfl) ?_
  refine JW_1 (op_buildN (qs := [(0, _), (3, _)]) rfl rfl rfl rfl ⟨⟨rfl, _, (Ev.rfl' rfl), cellsT⟩, ⟨⟨rfl, _, (Ev.rfl' rfl), cellsT⟩, trivial⟩⟩ (by rfl) nrmT) ?_
  refine JW_1 (op_buildSlice (size := 12) (qs := [(0, _)]) rfl rfl rfl ⟨⟨rfl, _, (Ev.rfl' rfl), cellsT⟩, trivial⟩ (by rfl) (by rfl)) ?_
  refine JW_take rfl rfl rfl (by rfl) (by kernel_rfl) (op_appT (by exact Ev.sub rfl (by exact SubL.row (xs := [(⟨v, 0, [], slot⟩ : Pd)]) (by rfl) (by rfl) subsT)) (by exact appT rfl rfl rfl) lenT) ?_
  refine JW_1 (by exact op_nilBuf (Ev.rfl' rfl) memT lenT) ?_
  refine JW_1 (by exact op_fieldBuf (k := 3) (Ev.rfl' rfl) memT lenT rfl rfl rfl rfl) ?_
  refine ⟨rfl, ?_⟩
  intro i43
  (refine JD_freezeX (T := tPd) (xs := pr.q ++ [⟨v, 0, [], slot⟩]) replT (namesT hX) ?_; refine JD_set 43 (IsSl tPd (pr.q ++ [⟨v, 0, [], slot⟩])) rfl (SubL.fact memT) ?_)
  refine JD_s0 (by kernel_rfl) rfl (by exact op_storeBuf (z' := (pr.withQ (pr.q ++ [⟨v, 0, [], slot⟩]))) (Ev.rfl' rfl) (Ev.rfl' rfl) cellsT replT hz rfl (by rfl) (by rfl)) ?_
  refine JD_end ?_
  refine JQ_then (JC_seq ?_)
  refine JC_region ?_
  refine JL_1 rfl (op_assign rfl) ?_
  refine JL_nil ?_
  refine JQ_then (JC_ret ?_)
  exact JQ_retP (Bs := [Is (.int .i64 0)]) Tryz.results92 ⟨⟨_, rfl, subT⟩, trivial⟩ () SubL.rfl' lessT
end Go.Proofs.YtfglhiciagmicaaGreat

/- Contracts: a pair executes one piece of its first verb. Own work. -/
namespace Go.Proofs.YtfglhiciagmicaaGreat
open Go.RowKit
set_option linter.unusedVariables false
set_option linter.unusedSimpArgs false
set_option maxRecDepth 100000
/-- A verb that waits. -/
structure InQ (x : Pd) : Prop where
  v : GoodV x.v 5 98
  lo : 0 ≤ x.ex
  hi : x.ex < ((piecesV x.v).length : Nat)
  w : x.v.words.length ≤ 1024
  ws : (x.ws.length : Int) ≤ 784 * x.ex
structure StO where
  dn : Dn
  slot : Int
  fin : Bool
  q : List Pd
/-- What one step does to a queue. -/
def StepR (x : Pd) (rest : List Pd) (z : StO) : Prop := z.dn.words.length ≤ 802816 ∧ ((z.fin = true ∧ z.slot = x.slot ∧ z.q = rest) ∨ (z.fin = false ∧ ∃ ws : List (BitVec 64), z.q = ⟨x.v, x.ex + 1, ws, x.slot⟩ :: rest ∧ x.ex + 1 < ((piecesV x.v).length : Nat) ∧ (ws.length : Int) ≤ 784 * (x.ex + 1)))
theorem JC_own {P : Program} {c : Ctx} {N : Nat} {E : Env} {L : List Item} {Q : Exit → Act → World → Prop} {α : Type} {T : Ty α} {xs : List α} {i : Option Addr × Nat} {n : Nat} {e : TypeId} {x : Code} (hL : buf (slV n i) e T xs ∈ L) (h0 : 0 < xs.length) (h : ∀ gg cap, i = (some ⟨gg, 0, none⟩, cap) → JC P c N x E L Q) : JC P c N x E L Q := fun φ a w st => by
  obtain ⟨gg, cap, cur, e, _⟩ := own_buf st.mem hL h0
  exact h gg cap e φ a w st
theorem SubL.refs {L : List Item} {As Bs : List VP} (h : SubLs L As Bs) : SubL L (IsRef As) (IsRef Bs) := fun φ v f ⟨b, o, e, k⟩ => ⟨b, o, e, fun j B hB => by
  obtain ⟨D, h1, h2⟩ := subLs_get (Bs := []) h hB
  obtain ⟨u, h3, h4, h5⟩ := k _ D h1
  exact ⟨u, h3, h2 φ u f h4, h5⟩⟩
theorem sub_node {L : List Item} {n k gg cap : Nat} {nb : WA} {nds : List FN} {d : FN} (hz : nds[k]? = some d) (hnb : nb = (some ⟨gg, 0, none⟩, cap)) (h1 : fact (slV n nb) (IsSl tFN nds) ∈ L) (h2 : fact (slV 784 d.w) (IsSl tAU (List.replicate 784 ())) ∈ L) : SubL L (Is (bpt nb (k * tFN.size))) (IsRef [IsSl tAU (List.replicate 784 ()), Is (.bool d.up)]) := fun φ v hf hv => by
  have g1 : (IsSl tFN nds).ok φ (slV n nb) := hf _ h1 rfl
  have e : v = bpt nb (k * tFN.size) := hv
  obtain ⟨ad, m, cp, e1, e2, e3, e4, e5⟩ := g1
  subst hnb
  unfold slV at e1
  injection e1 with e6 e7 e8
  have hk := (List.getElem?_eq_some_iff.1 hz).1
  rcases e5 with e5 | ⟨b, o, e9, e5⟩
  · omega
  · dsimp only at e6
    rw [e9] at e6
    injection e6 with e6
    injection e6 with e6 e7
    subst e6 e7
    have hr := e5 k d hz
    rw [Nat.zero_add] at hr
    have h3 : (IsRef (tFN.cells d)).ok φ v := ⟨gg, k * tFN.size, e, hr⟩
    exact SubL.refs (L := L) (As := tFN.cells d) (Bs := [IsSl tAU (List.replicate 784 ()), Is (.bool d.up)]) ⟨SubL.fact h2, SubL.rfl', trivial⟩ φ v hf h3
theorem CheckW_ok (v : GVerb) (h1 : 0 ≤ v.at_ ∧ v.at_ ≤ 2048) (h2 : 1 ≤ cntV v ∧ cntV v ≤ 1024) (inc : Int) : FnP Tryz.prog 108 [IsGVerb v, Is (.int .i64 inc), WAny, WAny, WAny] (VEx fun z : Int => Is (.int .i64 z)) := by
  intro φ w vs ha hm
  match vs, ha with
  | [u1, u2, u3, u4, u5], ⟨a1, a2, ⟨d3, a3⟩, ⟨d4, a4⟩, ⟨d5, a5⟩, _⟩ => exact CheckR_ok v h1 h2 inc d3 d4 d5 φ w _ ⟨a1, a2, a3, a4, a5, trivial⟩ hm
-- (*bodegaref6.Pair).Step: function 93
set_option maxHeartbeats 4000000 in
theorem PairStep_ok (n m : Nat) (pb nb : WA) (prs : List Pr) (j : Nat) (pr : Pr) (hz : prs[j]? = some pr) (nds : List FN) (k : Nat) (d : FN) (hzn : nds[k]? = some d) (hcl : 0 ≤ pr.client ∧ pr.client < 6) (x : Pd) (rest : List Pd) (hq : pr.q = x :: rest) (hx : InQ x) (hql : pr.q.length ≤ 1024) :
    Fn Tryz.prog 93 [Is (bpt pb (j * tPr.size)), Is (bpt nb (k * tFN.size))] [buf (slV n pb) 170 tPr prs, buf (slV m nb) 177 tFN nds, wb 83 784 d.w]
    (fun z : {z : StO // StepR x rest z} => IsTup [IsDn z.1.dn, Is (.int .i64 z.1.slot), Is (.bool z.1.fin), Is (.bool true)]) (fun z => [buf (slV n pb) 170 tPr (prs.set j (pr.withQ z.1.q)), buf (slV m nb) 177 tFN nds, wb 83 784 d.w]) := by
  have hn0 : 0 < prs.length := by have := (List.getElem?_eq_some_iff.1 hz).1; omega
  have hn1 := nds_pos hzn
  have hq0 : pr.q[0]? = some x := by rw [hq]; rfl
  have hqlen : pr.q.length = rest.length + 1 := by rw [hq]; rfl
  have hrest : (pr.q.take pr.q.length).drop 1 = rest := by rw [List.take_length, hq]; rfl
  have hgv := hx.v
  have hg1 := hgv.at_
  have hg2 := hgv.cnt
  have ha : 0 ≤ x.v.at_ ∧ x.v.at_ ≤ 2048 := by omega
  have hb : 1 ≤ cntV x.v ∧ cntV x.v ≤ 1024 := hg2
  have hlo := hx.lo
  have hhi := hx.hi
  have hws := hx.ws
  have hpl : (piecesV x.v).length ≤ 1024 := pcs_len _ _ _
  obtain ⟨e0, he0⟩ : ∃ e0 : Nat, (e0 : Int) = x.ex := ⟨x.ex.toNat, by omega⟩
  obtain ⟨pc, hpc⟩ : ∃ pc, (piecesV x.v)[e0]? = some pc := ⟨_, List.getElem?_eq_getElem (by omega)⟩
  have hpi := pcs_in _ _ _ _ (List.mem_of_getElem? hpc)
  refine Fn.enterN Tryz.func93 Tryz.ntmps93 rfl rfl ?_
  intro c hX
  refine JC_seq ?_
  refine JC_own (T := tFN) (xs := nds) (i := nb) (n := m) memT hn1 (fun gg cap hnb => ?_)
  refine JC_region ?_
  (refine JL_n rfl (op_allocN rfl nrmT rfl) ?_; intro i4)
  refine JL_1 rfl (op_assign rfl) ?_
  refine JL_1 rfl (op_assign rfl) ?_
  refine JL_1 rfl (op_assign rfl) ?_
  refine JL_nil ?_
  refine JQ_then (JC_seq (JC_seq ?_))
  refine JC_region ?_
  refine JL_1 rfl (op_move rfl) ?_
  refine JL_1 rfl (by exact op_nilBuf (Ev.rfl' rfl) memT lenT) ?_
  refine JL_1 rfl (by exact op_fieldBuf (k := 3) (Ev.rfl' rfl) memT lenT rfl rfl rfl rfl) ?_
  refine JL_1 rfl (by exact op_loadBuf (Ev.rfl' rfl) memT hz rfl rfl (by rfl)) ?_
  refine JL_1 rfl (by exact op_len (Ev.rfl' rfl) rfl) ?_
  refine JL_1 rfl (op_eql (Ev.rfl' rfl) (Ev.rfl' rfl)) ?_
  refine JL_nil ?_
  refine JQ_then ?_
  refine JC_cond (Ev.rfl' rfl) (fun h1 => ?_) (fun h1 => ?_)
  · exact absurd (eq_of_beq h1) (by omega)
  refine JC_skip (JQ_then (JC_seq ?_))
  refine JC_region ?_
  refine JL_1 rfl (op_move rfl) ?_
  refine JL_1 rfl (by exact op_nilBuf (Ev.rfl' rfl) memT lenT) ?_
  refine JL_1 rfl (by exact op_fieldBuf (k := 3) (Ev.rfl' rfl) memT lenT rfl rfl rfl rfl) ?_
  refine JL_1 rfl (by exact op_loadBuf (Ev.rfl' rfl) memT hz rfl rfl (by rfl)) ?_
  refine JL_1 rfl (by exact op_index (j := 0) (Ev.rfl' rfl) (Ev.rfl' rfl) rfl rfl (by rfl) hq0) ?_
  refine JL_1 rfl (by exact op_loadRefsN (n := 12) (Ev.rfl' rfl) rfl rfl rfl (by rfl) nrmT) ?_
  (refine JL_n rfl (op_allocN rfl nrmT rfl) ?_; intro i8)
  refine JL_s0 (op_storeN (Ev.rfl' rfl) (Ev.rfl' rfl) cellsT replT nrmT (by rfl) (by rfl) (by rfl)) ?_
  refine JL_nil ?_
  refine JQ_then (JC_seq ?_)
  refine JC_region ?_
  refine JL_1 rfl (op_assign rfl) ?_
  refine JL_nil ?_
  refine JQ_then (JC_seq ?_)
  refine JC_cutT (fun _ : Unit => True) (fun _ => [(0, Is (bpt pb (j * tPr.size))), (1, Is (bpt nb (k * tFN.size))), (4, Is (.pointer (some ⟨i4, 0, none⟩))), (8, Is (.pointer (some ⟨i8, 0, none⟩))), (9, AnyI)]) (fun _ => [blk i8 190 (tPd.cells x), blk i4 110 [Is (.int .i64 0), Is (.slice none 0 0)], buf (slV n pb) 170 tPr prs, buf (slV m nb) 177 tFN nds, wb 83 784 d.w]) (fun _ _ => ?_) ?_
  rotate_left 1
  focus
    refine JC_block (JC_seq ?_)
    refine JC_region ?_
    refine JL_1 rfl (op_move rfl) ?_
    refine JL_1 rfl (by exact op_nilBuf (Ev.rfl' rfl) memT lenT) ?_
    refine JL_1 rfl (by exact op_fieldBuf (k := 1) (Ev.rfl' rfl) memT lenT rfl rfl rfl rfl) ?_
    refine JL_1 rfl (by exact op_loadBuf (Ev.rfl' rfl) memT hzn rfl rfl (by rfl)) ?_
    refine JL_1 rfl (op_not (Ev.rfl' rfl)) ?_
    refine JL_1 rfl (op_assign rfl) ?_
    refine JL_nil ?_
    refine JQ_then ?_
    refine JC_cond (Ev.rfl' rfl) (fun h6 => ?_) (fun h6 => ?_)
    · refine JC_region ?_
      refine JL_1 rfl (op_assign rfl) ?_
      refine JL_nil ?_
      refine JQ_block ?_
      exact JQ_meetP () trivial ⟨⟨_, rfl, subT⟩, ⟨_, rfl, subT⟩, ⟨_, rfl, subT⟩, ⟨_, rfl, subT⟩, ⟨_, rfl, (by exact fun φ v _ h => ⟨_, h⟩)⟩, trivial⟩ lessT
    refine JC_seq ?_
    refine JC_dr rfl (by kernel_rfl) ?_
    refine JD_stretch 11 (by kernel_rfl) ?_
    refine JW_1 (by exact op_fieldPtr (k := 0) (Ev.rfl' rfl) rfl rfl rfl rfl) ?_
    refine JW_1 (by exact op_loadPtrsN (n := 9) (Ev.rfl' rfl) memT (by rfl) (by rfl) (by rfl) (by rfl) nrmT) ?_
    refine JW_1 (op_move rfl) ?_
    refine JW_1 (by exact op_nilBuf (Ev.rfl' rfl) memT lenT) ?_
    refine JW_1 (by exact op_fieldBuf (k := 0) (Ev.rfl' rfl) memT lenT rfl rfl rfl rfl) ?_
    refine JW_1 (by exact op_loadBuf (Ev.rfl' rfl) memT hzn rfl rfl (by rfl)) ?_
    refine JW_1 (by exact op_lenLit (Ev.rfl' rfl) rfl) ?_
    refine JW_1 (op_quo (r := 98) (Ev.rfl' rfl) (Ev.rfl' rfl) (by omega) (by decide)) ?_
    refine JW_1 (op_call Tryz.call91 (ValidV0_ok _ _ _ hx.v) ⟨evS, ⟨evS, ⟨evS, trivial⟩⟩⟩) ?_
    refine JW_1 (op_neq (Ev.rfl' rfl) (Ev.rfl' rfl)) ?_
    refine JW_1 (op_assign rfl) ?_
    refine ⟨rfl, ?_⟩
    refine JD_end ?_
    refine JQ_then ?_
    refine JC_cond (Ev.rfl' rfl) (fun h8 => ?_) (fun h8 => ?_)
    · exact absurd h8 (by decide)
    refine JC_dr rfl (by kernel_rfl) ?_
    refine JD_stretch 19 (by kernel_rfl) ?_
    refine JW_1 (by exact op_fieldPtr (k := 0) (Ev.rfl' rfl) rfl rfl rfl rfl) ?_
    refine JW_1 (by exact op_loadPtrsN (n := 9) (Ev.rfl' rfl) memT (by rfl) (by rfl) (by rfl) (by rfl) nrmT) ?_
    refine JW_1 (op_move rfl) ?_
    refine JW_1 (by exact op_nilBuf (Ev.rfl' rfl) memT lenT) ?_
    refine JW_1 (by exact op_fieldBuf (k := 1) (Ev.rfl' rfl) memT lenT rfl rfl rfl rfl) ?_
    refine JW_1 (by exact op_loadBuf (Ev.rfl' rfl) memT hz rfl rfl (by rfl)) ?_
    refine JW_1 (op_move rfl) ?_
    refine JW_1 (op_move rfl) ?_
    refine JW_1 (by exact op_nilBuf (Ev.rfl' rfl) memT lenT) ?_
    refine JW_1 (by exact op_fieldBuf (k := 0) (Ev.rfl' rfl) memT lenT rfl rfl rfl rfl) ?_
    refine JW_1 (by exact op_loadBuf (Ev.rfl' rfl) memT hz rfl rfl (by rfl)) ?_
    refine JW_1 (op_call Tryz.call101 (DoorN_ok _ hcl) ⟨evS, trivial⟩) ?_
    refine JW_1 (op_callB (by (try simp only [List.nil_append, List.cons_append]); exact lendT) Tryz.call109 (at_ok d.up _) ⟨Ev.sub rfl (sub_node hzn hnb memT memT), ⟨evS, trivial⟩⟩ pure_wany) ?_
    refine JW_1 (op_move rfl) ?_
    refine JW_1 (op_callB (by (try simp only [List.nil_append, List.cons_append]); exact lendT) Tryz.call109 (at_ok d.up _) ⟨Ev.sub rfl (sub_node hzn hnb memT memT), ⟨evS, trivial⟩⟩ pure_wany) ?_
    refine JW_1 (op_move rfl) ?_
    refine JW_1 (op_callB (by (try simp only [List.nil_append, List.cons_append]); exact lendT) Tryz.call109 (at_ok d.up _) ⟨Ev.sub rfl (sub_node hzn hnb memT memT), ⟨evS, trivial⟩⟩ pure_wany) ?_
    refine JW_1 (op_call Tryz.call108 (CheckW_ok x.v ha hb _) ⟨evS, ⟨evS, ⟨evS, ⟨evS, ⟨evS, trivial⟩⟩⟩⟩⟩) ?_
    refine JW_1 (op_assign rfl) ?_
    refine ⟨rfl, ?_⟩
    refine JD_end ?_
    refine JQ_block ?_
    exact JQ_meetP () trivial ⟨⟨_, rfl, subT⟩, ⟨_, rfl, subT⟩, ⟨_, rfl, subT⟩, ⟨_, rfl, subT⟩, ⟨_, rfl, (by exact SubL.rfl')⟩, trivial⟩ lessT
  refine JC_ex (R := fun e : Int => Is (.int .i64 e)) 9 rfl (fun e => ?_)
  refine JC_seq (JC_seq ?_)
  refine JC_region ?_
  refine JL_1 rfl (op_move rfl) ?_
  refine JL_1 rfl (op_neq (Ev.rfl' rfl) (Ev.rfl' rfl)) ?_
  refine JL_nil ?_
  refine JQ_then ?_
  refine JC_cond (Ev.rfl' rfl) (fun h10 => ?_) (fun h10 => ?_)
  · refine JC_seq ?_
    refine JC_region ?_
    refine JL_1 rfl (op_move rfl) ?_
    refine JL_1 rfl (op_move rfl) ?_
    refine JL_1 rfl (by exact op_nilBuf (Ev.rfl' rfl) memT lenT) ?_
    refine JL_1 rfl (by exact op_fieldBuf (k := 3) (Ev.rfl' rfl) memT lenT rfl rfl rfl rfl) ?_
    refine JL_1 rfl (by exact op_loadBuf (Ev.rfl' rfl) memT hz rfl rfl (by rfl)) ?_
    refine JL_1 rfl (op_slice (Ev.rfl' rfl) rfl rfl ⟨_, _, (Ev.rfl' rfl), (show _ = ((1 : Nat) : Int) by rfl)⟩ rfl (by omega) (by omega)) ?_
    refine JL_set 67 (IsSl tPd rest) rfl (SubL.eq (congrArg (IsSl tPd) hrest)) ?_
    (refine JL_n rfl (op_appNil (T := tPd) (Ev.rfl' rfl) evS (by exact appT rfl rfl rfl) lenT) ?_; intro i68)
    refine JL_1 rfl (by exact op_nilBuf (Ev.rfl' rfl) memT lenT) ?_
    refine JL_1 rfl (by exact op_fieldBuf (k := 3) (Ev.rfl' rfl) memT lenT rfl rfl rfl rfl) ?_
    (refine JL_freezeX (T := tPd) (xs := rest) replT (namesT hX) ?_; refine JL_set 68 (IsSl tPd rest) rfl (SubL.fact memT) ?_)
    refine JL_s0 (by exact op_storeBuf (z' := (pr.withQ rest)) (Ev.rfl' rfl) (Ev.rfl' rfl) cellsT replT hz rfl (by rfl) (by rfl)) ?_
    refine JL_nil ?_
    refine JQ_then (JC_seq ?_)
    refine JC_dr rfl (by kernel_rfl) ?_
    refine JD_front (it := blk i4 _ _) (by repeat (first | exact Drop1.here _ _ | apply Drop1.next)) ?_
    refine JD_stretchG (its := [_]) 8 (by kernel_rfl) ?_
    refine JW_1 (op_move rfl) ?_
    refine JW_1 (op_buildN (qs := [(0, _)]) rfl rfl rfl rfl ⟨⟨rfl, _, (Ev.rfl' rfl), cellsT⟩, trivial⟩ (by rfl) nrmT) ?_
    refine JW_1 (by exact op_fieldPtr (k := 11) (Ev.rfl' rfl) rfl rfl rfl rfl) ?_
    refine JW_1 (by exact op_loadPtr (Ev.rfl' rfl) memT (by rfl) (by rfl) (by rfl)) ?_
    refine JW_ghost (s := 128) rfl rfl rfl (by kernel_rfl) (fun c' => by exact op_store (Ev.rfl' rfl) (Ev.rfl' rfl) cellsT replT (by rfl) (by rfl) (by rfl)) ?_
    refine JW_1 (op_assign rfl) ?_
    refine JW_1 (op_assign rfl) ?_
    refine JW_1 (op_assign rfl) ?_
    refine ⟨rfl, ?_⟩
    intro _
    refine JD_end ?_
    refine JQ_then (JC_ret (JQ_then_ret ?_))
    exact JQ_retP (Bs := [IsDn ⟨e, []⟩, Is (.int .i64 x.slot), Is (.bool true), Is (.bool true)]) Tryz.results93 ⟨⟨_, _, _, _, rfl, memT, rfl, .inr ⟨rfl, _, rfl, rfl, subT⟩⟩, ⟨⟨_, rfl, subT⟩, ⟨⟨_, rfl, subT⟩, ⟨⟨_, rfl, subT⟩, trivial⟩⟩⟩⟩ ⟨⟨⟨e, []⟩, x.slot, true, rest⟩, Nat.zero_le _, .inl ⟨rfl, rfl, rfl⟩⟩ SubL.rfl' lessT
  refine JC_skip (JQ_then (JC_seq ?_))
  refine JC_region ?_
  refine JL_1 rfl (by exact op_fieldPtr (k := 0) (Ev.rfl' rfl) rfl rfl rfl rfl) ?_
  refine JL_1 rfl (by exact op_loadPtrsN (n := 9) (Ev.rfl' rfl) memT (by rfl) (by rfl) (by rfl) (by rfl) nrmT) ?_
  refine JL_1 rfl (op_call Tryz.call110 (PiecesR_ok x.v ha hb) ⟨evS, trivial⟩) ?_
  refine JL_1 rfl (op_assign rfl) ?_
  refine JL_nil ?_
  refine JQ_then (JC_seq ?_)
  refine JC_dr rfl (by kernel_rfl) ?_
  refine JD_stretch 11 (by kernel_rfl) ?_
  refine JW_1 (by exact op_fieldPtr (k := 10) (Ev.rfl' rfl) rfl rfl rfl rfl) ?_
  refine JW_1 (by exact op_loadPtr (Ev.rfl' rfl) memT (by rfl) (by rfl) (by rfl)) ?_
  refine JW_n (op_appNil (T := tU64) (Ev.rfl' rfl) evS (by exact appT rfl rfl rfl) lenT) ?_
  refine JW_1 (op_move rfl) ?_
  refine JW_1 (by exact op_fieldPtr (k := 0) (Ev.rfl' rfl) rfl rfl rfl rfl) ?_
  refine JW_1 (by exact op_loadPtrsN (n := 9) (Ev.rfl' rfl) memT (by rfl) (by rfl) (by rfl) (by rfl) nrmT) ?_
  refine JW_1 (op_move rfl) ?_
  refine JW_1 (by exact op_fieldPtr (k := 9) (Ev.rfl' rfl) rfl rfl rfl rfl) ?_
  refine JW_1 (by exact op_loadPtr (Ev.rfl' rfl) memT (by rfl) (by rfl) (by rfl)) ?_
  refine JW_1 (by exact op_index (j := e0) (Ev.rfl' rfl) (Ev.rfl' rfl) rfl rfl (by omega) hpc) ?_
  refine JW_1 (by exact op_loadRefsN (n := 2) (Ev.rfl' rfl) rfl rfl rfl (by rfl) nrmT) ?_
  refine ⟨rfl, ?_⟩
  intro i80
  (refine JD_s (by kernel_rfl) rfl rfl (op_callM (Drops.cons drop1A (Drops.cons drop1A (Drops.nil _))) Tryz.call111 (execute_ok m nb nds k d hzn x.v pc (by omega) (fun h => by have : cntV x.v = (x.v.words.length : Nat) := by { unfold cntV; rw [if_neg (by omega), if_pos h] }; omega) ha.1) ⟨evS, ⟨evS, ⟨evS, trivial⟩⟩⟩) ?_; intro i89)
  (refine JD_s (by kernel_rfl) rfl rfl (op_app (Ev.rfl' rfl) (fun _ => replT) evS (by exact appT rfl rfl rfl) lenT) ?_; intro i90)
  refine JD_stretch 1 (by kernel_rfl) ?_
  refine JW_1 (by exact op_fieldPtr (k := 10) (Ev.rfl' rfl) rfl rfl rfl rfl) ?_
  refine ⟨rfl, ?_⟩
  (refine JD_freezeX (T := tU64) (xs := x.ws ++ i89.1) replT (namesT hX) ?_; refine JD_set 90 (IsSl tU64 (x.ws ++ i89.1)) rfl (SubL.fact memT) ?_)
  refine JD_s0 (by kernel_rfl) rfl (op_storeN (Ev.rfl' rfl) (Ev.rfl' rfl) cellsT replT nrmT (by rfl) (by rfl) (by rfl)) ?_
  refine JD_end ?_
  refine JQ_then (JC_seq ?_)
  refine JC_region ?_
  refine JL_1 rfl (by exact op_fieldPtr (k := 9) (Ev.rfl' rfl) rfl rfl rfl rfl) ?_
  refine JL_1 rfl (by exact op_loadPtr (Ev.rfl' rfl) memT (by rfl) (by rfl) (by rfl)) ?_
  refine JL_1 rfl (op_add (Ev.rfl' rfl) (Ev.rfl' rfl) wrapT) ?_
  refine JL_1 rfl (by exact op_fieldPtr (k := 9) (Ev.rfl' rfl) rfl rfl rfl rfl) ?_
  refine JL_s0 (op_storeN (Ev.rfl' rfl) (Ev.rfl' rfl) cellsT replT nrmT (by rfl) (by rfl) (by rfl)) ?_
  refine JL_nil ?_
  refine JQ_then (JC_seq (JC_seq ?_))
  refine JC_region ?_
  refine JL_1 rfl (by exact op_fieldPtr (k := 9) (Ev.rfl' rfl) rfl rfl rfl rfl) ?_
  refine JL_1 rfl (by exact op_loadPtr (Ev.rfl' rfl) memT (by rfl) (by rfl) (by rfl)) ?_
  refine JL_1 rfl (op_move rfl) ?_
  refine JL_1 rfl (by exact op_len (Ev.rfl' rfl) rfl) ?_
  refine JL_1 rfl (op_lss (Ev.rfl' rfl) (Ev.rfl' rfl)) ?_
  refine JL_nil ?_
  refine JQ_then ?_
  refine JC_cond (Ev.rfl' rfl) (fun h16 => ?_) (fun h16 => ?_)
  · refine JC_seq ?_
    refine JC_region ?_
    refine JL_1 rfl (op_move rfl) ?_
    refine JL_1 rfl (by exact op_nilBuf (Ev.rfl' rfl) memT lenT) ?_
    refine JL_1 rfl (by exact op_fieldBuf (k := 3) (Ev.rfl' rfl) memT lenT rfl rfl rfl rfl) ?_
    refine JL_1 rfl (by exact op_loadBuf (Ev.rfl' rfl) memT hz rfl rfl (by rfl)) ?_
    (refine JL_n rfl (op_appNil (T := tPd) (Ev.rfl' rfl) evS (by exact appT rfl rfl rfl) lenT) ?_; intro i105)
    refine JL_1 rfl (op_assign rfl) ?_
    refine JL_nil ?_
    refine JQ_then (JC_seq ?_)
    refine JC_region ?_
    refine JL_1 rfl (op_move rfl) ?_
    refine JL_1 rfl (by exact op_loadPtrsN (n := 12) (Ev.rfl' rfl) memT (by rfl) (by rfl) (by rfl) (by rfl) nrmT) ?_
    refine JL_1 rfl (by exact op_indexBuf (k := 0) (Ev.rfl' rfl) memT (Ev.rfl' rfl) rfl rfl idxT lenT) ?_
    refine JL_s0 (by exact op_storeBuf0 (z' := (⟨x.v, x.ex + 1, x.ws ++ i89.1, x.slot⟩ : Pd)) (Ev.rfl' rfl) (Ev.rfl' rfl) cellsT replT hq0 rfl (by rfl) (by rfl)) ?_
    refine JL_nil ?_
    refine JQ_then (JC_seq ?_)
    refine JC_region ?_
    refine JL_1 rfl (op_move rfl) ?_
    refine JL_1 rfl (op_move rfl) ?_
    refine JL_1 rfl (by exact op_nilBuf (Ev.rfl' rfl) memT lenT) ?_
    refine JL_1 rfl (by exact op_fieldBuf (k := 3) (Ev.rfl' rfl) memT lenT rfl rfl rfl rfl) ?_
    (refine JL_freezeX (T := tPd) (xs := pr.q.set 0 (⟨x.v, x.ex + 1, x.ws ++ i89.1, x.slot⟩ : Pd)) replT (namesT hX) ?_; refine JL_set 110 (IsSl tPd (pr.q.set 0 (⟨x.v, x.ex + 1, x.ws ++ i89.1, x.slot⟩ : Pd))) rfl (SubL.fact memT) ?_)
    refine JL_s0 (by exact op_storeBuf (z' := (pr.withQ (pr.q.set 0 (⟨x.v, x.ex + 1, x.ws ++ i89.1, x.slot⟩ : Pd)))) (Ev.rfl' rfl) (Ev.rfl' rfl) cellsT replT hz rfl (by rfl) (by rfl)) ?_
    refine JL_nil ?_
    refine JQ_then (JC_seq ?_)
    refine JC_region ?_
    refine JL_1 rfl (op_buildN (qs := []) rfl rfl rfl rfl trivial (by rfl) nrmT) ?_
    refine JL_s0 (op_storeN (Ev.rfl' rfl) (Ev.rfl' rfl) cellsT replT nrmT (by rfl) (by rfl) (by rfl)) ?_
    refine JL_1 rfl (op_assign rfl) ?_
    refine JL_1 rfl (op_assign rfl) ?_
    refine JL_1 rfl (op_assign rfl) ?_
    refine JL_nil ?_
    refine JQ_then (JC_ret (JQ_then_ret ?_))
    have hlen : (i89.1.length : Int) ≤ 784 := by have := i89.2; omega
    exact JQ_retP (Bs := [IsDn ⟨0, []⟩, Is (.int .i64 (-1)), Is (.bool false), Is (.bool true)]) Tryz.results93 ⟨⟨_, _, _, _, rfl, memT, rfl, .inr ⟨rfl, _, rfl, rfl, subT⟩⟩, ⟨⟨_, rfl, subT⟩, ⟨⟨_, rfl, subT⟩, ⟨⟨_, rfl, subT⟩, trivial⟩⟩⟩⟩ ⟨⟨⟨0, []⟩, -1, false, pr.q.set 0 (⟨x.v, x.ex + 1, x.ws ++ i89.1, x.slot⟩ : Pd)⟩, Nat.zero_le _, .inr ⟨rfl, x.ws ++ i89.1, by rw [hq]; rfl, of_decide_eq_true h16, by rw [List.length_append]; omega⟩⟩ SubL.rfl' lessT
  refine JC_skip (JQ_then (JC_seq ?_))
  refine JC_region ?_
  refine JL_1 rfl (op_move rfl) ?_
  refine JL_1 rfl (op_move rfl) ?_
  refine JL_1 rfl (by exact op_nilBuf (Ev.rfl' rfl) memT lenT) ?_
  refine JL_1 rfl (by exact op_fieldBuf (k := 3) (Ev.rfl' rfl) memT lenT rfl rfl rfl rfl) ?_
  refine JL_1 rfl (by exact op_loadBuf (Ev.rfl' rfl) memT hz rfl rfl (by rfl)) ?_
  refine JL_1 rfl (op_slice (Ev.rfl' rfl) rfl rfl ⟨_, _, (Ev.rfl' rfl), (show _ = ((1 : Nat) : Int) by rfl)⟩ rfl (by omega) (by omega)) ?_
  refine JL_set 119 (IsSl tPd rest) rfl (SubL.eq (congrArg (IsSl tPd) hrest)) ?_
  (refine JL_n rfl (op_appNil (T := tPd) (Ev.rfl' rfl) evS (by exact appT rfl rfl rfl) lenT) ?_; intro i120)
  refine JL_1 rfl (by exact op_nilBuf (Ev.rfl' rfl) memT lenT) ?_
  refine JL_1 rfl (by exact op_fieldBuf (k := 3) (Ev.rfl' rfl) memT lenT rfl rfl rfl rfl) ?_
  (refine JL_freezeX (T := tPd) (xs := rest) replT (namesT hX) ?_; refine JL_set 120 (IsSl tPd rest) rfl (SubL.fact memT) ?_)
  refine JL_s0 (by exact op_storeBuf (z' := (pr.withQ rest)) (Ev.rfl' rfl) (Ev.rfl' rfl) cellsT replT hz rfl (by rfl) (by rfl)) ?_
  refine JL_nil ?_
  refine JQ_then (JC_seq ?_)
  refine JC_dr rfl (by kernel_rfl) ?_
  refine JD_front (it := blk i4 _ _) (by repeat (first | exact Drop1.here _ _ | apply Drop1.next)) ?_
  refine JD_stretchG (its := [_]) 9 (by kernel_rfl) ?_
  refine JW_1 (by exact op_fieldPtr (k := 10) (Ev.rfl' rfl) rfl rfl rfl rfl) ?_
  refine JW_1 (by exact op_loadPtr (Ev.rfl' rfl) memT (by rfl) (by rfl) (by rfl)) ?_
  refine JW_1 (op_buildN (qs := [(1, _)]) rfl rfl rfl rfl ⟨⟨rfl, _, (Ev.rfl' rfl), cellsT⟩, trivial⟩ (by rfl) nrmT) ?_
  refine JW_1 (by exact op_fieldPtr (k := 11) (Ev.rfl' rfl) rfl rfl rfl rfl) ?_
  refine JW_1 (by exact op_loadPtr (Ev.rfl' rfl) memT (by rfl) (by rfl) (by rfl)) ?_
  refine JW_ghost (s := 128) rfl rfl rfl (by kernel_rfl) (fun c' => by exact op_store (Ev.rfl' rfl) (Ev.rfl' rfl) cellsT replT (by rfl) (by rfl) (by rfl)) ?_
  refine JW_1 (op_assign rfl) ?_
  refine JW_1 (op_assign rfl) ?_
  refine JW_1 (op_assign rfl) ?_
  refine ⟨rfl, ?_⟩
  intro _
  refine JD_end ?_
  refine JQ_then (JC_ret ?_)
  exact JQ_retP (Bs := [IsDn ⟨0, x.ws ++ i89.1⟩, Is (.int .i64 x.slot), Is (.bool true), Is (.bool true)]) Tryz.results93 ⟨⟨_, _, _, _, rfl, memT, rfl, .inr ⟨rfl, _, rfl, rfl, subT⟩⟩, ⟨⟨_, rfl, subT⟩, ⟨⟨_, rfl, subT⟩, ⟨⟨_, rfl, subT⟩, trivial⟩⟩⟩⟩ ⟨⟨⟨0, x.ws ++ i89.1⟩, x.slot, true, rest⟩, (by have := i89.2; dsimp only; rw [List.length_append]; omega), .inl ⟨rfl, rfl, rfl⟩⟩ SubL.rfl' lessT
end Go.Proofs.YtfglhiciagmicaaGreat

/- Contracts: a fabric's client: is it alive, what does it wait for, which choices are there. Own work. -/
namespace Go.Proofs.YtfglhiciagmicaaGreat
open Go.RowKit
set_option linter.unusedVariables false
set_option linter.unusedSimpArgs false
set_option maxRecDepth 100000
def tBl : Ty Bool := ⟨1, fun b => [Is (.bool b)], fun _ => rfl⟩
section
variable {P : Program} {c : Ctx} {A : Nat → Option VP} {L : List Item} {d : Option Tmp} {ty : TypeId} {pos : String} {af : Array Edge} {g : Option (Nat × Bool)} {x y : Operand} {t e : TypeId}
end
-- (*bodegaref6.Fabric).alive: function 90
theorem alive_ok (f n : Nat) (nb cb lb : WA) (cn : Cn) : Fn Tryz.prog 90 [Is (.pointer (some ⟨f, 0, none⟩)), Is (.int .i64 0)] [blk f 166 [Is (.int .i64 98), Is (slV n nb), Is (slV 1 cb), Is (slV 1 lb), Is (slV 0 (none, 0))], buf (slV 1 cb) 160 tCn [cn]]
    (fun _ : Unit => Is (.bool cn.alive)) (fun _ => [blk f 166 [Is (.int .i64 98), Is (slV n nb), Is (slV 1 cb), Is (slV 1 lb), Is (slV 0 (none, 0))], buf (slV 1 cb) 160 tCn [cn]]) := by
  refine Fn.enterN Tryz.func90 Tryz.ntmps90 rfl rfl ?_
  intro c hX
  refine JC_seq ?_
  refine JC_region ?_
  refine JL_1 rfl (op_assign rfl) ?_
  refine JL_nil ?_
  refine JQ_then (JC_seq ?_)
  refine JC_region ?_
  refine JL_1 rfl (op_move rfl) ?_
  refine JL_1 rfl (op_geq (Ev.rfl' rfl) (Ev.rfl' rfl)) ?_
  refine JL_1 rfl (op_move rfl) ?_
  (refine JL_i0 rfl rfl rfl (fun hg => (by have hg0 := hg; (try simp at hg); exact op_moveE (Ev.rfl' rfl))) ?_)
  (refine JL_i0 rfl rfl rfl (fun hg => (by have hg0 := hg; (try simp at hg); exact op_moveE (Ev.rfl' rfl))) ?_)
  (refine JL_i0 rfl rfl rfl (fun hg => (by have hg0 := hg; (try simp at hg); exact op_nilCheck evG)) ?_)
  (refine JL_i0 rfl rfl rfl (fun hg => (by have hg0 := hg; (try simp at hg); exact op_fieldPtr (k := 2) evG rfl rfl rfl rfl)) ?_)
  (refine JL_i0 rfl rfl rfl (fun hg => (by have hg0 := hg; (try simp at hg); exact op_loadPtr evG memT (by rfl) (by rfl) (by rfl))) ?_)
  (refine JL_i0 rfl rfl rfl (fun hg => (by have hg0 := hg; (try simp at hg); exact op_lenLit evG rfl)) ?_)
  (refine JL_i0 rfl rfl rfl (fun hg => (by have hg0 := hg; (try simp at hg); exact op_lss evG evG)) ?_)
  refine JL_1 rfl (op_and (Ev.rfl' rfl) rfl (fun h => by exact SubL.rfl')) ?_
  refine JL_1 rfl (op_move rfl) ?_
  (refine JL_i0 rfl rfl rfl (fun hg => (by have hg0 := hg; (try simp at hg); exact op_moveE (Ev.rfl' rfl))) ?_)
  (refine JL_i0 rfl rfl rfl (fun hg => (by have hg0 := hg; (try simp at hg); exact op_nilCheck evG)) ?_)
  (refine JL_i0 rfl rfl rfl (fun hg => (by have hg0 := hg; (try simp at hg); exact op_fieldPtr (k := 2) evG rfl rfl rfl rfl)) ?_)
  (refine JL_i0 rfl rfl rfl (fun hg => (by have hg0 := hg; (try simp at hg); exact op_loadPtr evG memT (by rfl) (by rfl) (by rfl))) ?_)
  (refine JL_i0 rfl rfl rfl (fun hg => (by have hg0 := hg; (try simp at hg); exact op_moveE (Ev.rfl' rfl))) ?_)
  (refine JL_i0 rfl rfl rfl (fun hg => (by have hg0 := hg; (try simp at hg); exact op_indexBuf (k := 0) evG memT evG rfl rfl idxT lenT)) ?_)
  (refine JL_i0 rfl rfl rfl (fun hg => (by have hg0 := hg; (try simp at hg); exact op_fieldBuf (k := 0) evG memT lenT rfl rfl rfl rfl)) ?_)
  (refine JL_i0 rfl rfl rfl (fun hg => (by have hg0 := hg; (try simp at hg); exact op_loadBuf evG memT (show [cn][0]? = some cn from rfl) rfl rfl (by rfl))) ?_)
  refine JL_1 rfl (op_and (Ev.rfl' rfl) rfl (fun h => by exact SubL.rfl')) ?_
  refine JL_1 rfl (op_assign rfl) ?_
  refine JL_nil ?_
  refine JQ_then (JC_ret ?_)
  exact JQ_retP (Bs := [Is (.bool cn.alive)]) Tryz.results90 ⟨⟨_, rfl, SubL.eq (by simp)⟩, trivial⟩ () SubL.rfl' lessT
/-- How many verbs have not completed. -/
def cntF (hs : List Bool) : Nat := (hs.filter fun b => !b).length
theorem cntF_succ {hs : List Bool} {i : Nat} {b : Bool} (h : hs[i]? = some b) : cntF (hs.take (i + 1)) = cntF (hs.take i) + (if b then 0 else 1) := by
  unfold cntF
  rw [take_add1 h, List.filter_append, List.length_append]
  cases b <;> simp
theorem cntF_le (hs : List Bool) (i : Nat) : cntF (hs.take i) ≤ i := by
  unfold cntF
  refine Nat.le_trans (List.length_filter_le _ _) ?_
  rw [List.length_take]; omega
/-- A client with a batch. -/
@[reducible] def cnOn (m : Nat) (da ha : WA) (tr po : Int) : Cn := ⟨true, 1, true, slV m da, slV m ha, tr, po⟩
-- (*bodegaref6.Fabric).Waiting: function 76
set_option maxHeartbeats 1000000 in
theorem Waiting_ok (f n m : Nat) (hm : m ≤ 1024) (nb cb lb da ha : WA) (tr po : Int) (hs : List Bool) (hl : hs.length = m) : Fn Tryz.prog 76 [Is (.pointer (some ⟨f, 0, none⟩)), Is (.int .i64 0)] [blk f 166 [Is (.int .i64 98), Is (slV n nb), Is (slV 1 cb), Is (slV 1 lb), Is (slV 0 (none, 0))], buf (slV 1 cb) 160 tCn [cnOn m da ha tr po], buf (slV m ha) 4 tBl hs]
    (fun _ : Unit => Is (.int .i64 (cntF hs : Nat))) (fun _ => [blk f 166 [Is (.int .i64 98), Is (slV n nb), Is (slV 1 cb), Is (slV 1 lb), Is (slV 0 (none, 0))], buf (slV 1 cb) 160 tCn [cnOn m da ha tr po], buf (slV m ha) 4 tBl hs]) := by
  refine Fn.enterN Tryz.func76 Tryz.ntmps76 rfl rfl ?_
  intro c hX
  refine JC_seq ?_
  refine JC_region ?_
  refine JL_1 rfl (op_assign rfl) ?_
  refine JL_nil ?_
  refine JQ_then (JC_seq (JC_seq ?_))
  refine JC_region ?_
  refine JL_1 rfl (op_move rfl) ?_
  refine JL_1 rfl (op_lss (Ev.rfl' rfl) (Ev.rfl' rfl)) ?_
  refine JL_1 rfl (op_move rfl) ?_
  (refine JL_i0 rfl rfl rfl (fun hg => (by have hg0 := hg; (try simp at hg); exact op_moveE (Ev.rfl' rfl))) ?_)
  (refine JL_i0 rfl rfl rfl (fun hg => (by have hg0 := hg; (try simp at hg); exact op_moveE (Ev.rfl' rfl))) ?_)
  (refine JL_i0 rfl rfl rfl (fun hg => (by have hg0 := hg; (try simp at hg); exact op_nilCheck evG)) ?_)
  (refine JL_i0 rfl rfl rfl (fun hg => (by have hg0 := hg; (try simp at hg); exact op_fieldPtr (k := 2) evG rfl rfl rfl rfl)) ?_)
  (refine JL_i0 rfl rfl rfl (fun hg => (by have hg0 := hg; (try simp at hg); exact op_loadPtr evG memT (by rfl) (by rfl) (by rfl))) ?_)
  (refine JL_i0 rfl rfl rfl (fun hg => (by have hg0 := hg; (try simp at hg); exact op_lenLit evG rfl)) ?_)
  (refine JL_i0 rfl rfl rfl (fun hg => (by have hg0 := hg; (try simp at hg); exact op_geq evG evG)) ?_)
  refine JL_1 rfl (op_or (Ev.rfl' rfl) rfl (fun h => by exact SubL.rfl')) ?_
  refine JL_1 rfl (op_move rfl) ?_
  (refine JL_i0 rfl rfl rfl (fun hg => (by have hg0 := hg; (try simp at hg); exact op_moveE (Ev.rfl' rfl))) ?_)
  (refine JL_i0 rfl rfl rfl (fun hg => (by have hg0 := hg; (try simp at hg); exact op_nilCheck evG)) ?_)
  (refine JL_i0 rfl rfl rfl (fun hg => (by have hg0 := hg; (try simp at hg); exact op_fieldPtr (k := 2) evG rfl rfl rfl rfl)) ?_)
  (refine JL_i0 rfl rfl rfl (fun hg => (by have hg0 := hg; (try simp at hg); exact op_loadPtr evG memT (by rfl) (by rfl) (by rfl))) ?_)
  (refine JL_i0 rfl rfl rfl (fun hg => (by have hg0 := hg; (try simp at hg); exact op_moveE (Ev.rfl' rfl))) ?_)
  (refine JL_i0 rfl rfl rfl (fun hg => (by have hg0 := hg; (try simp at hg); exact op_indexBuf (k := 0) evG memT evG rfl rfl idxT lenT)) ?_)
  (refine JL_i0 rfl rfl rfl (fun hg => (by have hg0 := hg; (try simp at hg); exact op_fieldBuf (k := 2) evG memT lenT rfl rfl rfl rfl)) ?_)
  (refine JL_i0 rfl rfl rfl (fun hg => (by have hg0 := hg; (try simp at hg); exact op_loadBuf evG memT (show [cnOn m da ha tr po][0]? = some (cnOn m da ha tr po) from rfl) rfl rfl (by rfl))) ?_)
  (refine JL_i0 rfl rfl rfl (fun hg => (by have hg0 := hg; (try simp at hg); exact op_not evG)) ?_)
  refine JL_1 rfl (op_or (Ev.rfl' rfl) rfl (fun h => by exact SubL.rfl')) ?_
  refine JL_nil ?_
  refine JQ_then ?_
  refine JC_cond (Ev.rfl' rfl) (fun h1 => ?_) (fun h1 => ?_)
  · exact absurd h1 (by simp)
  refine JC_skip (JQ_then (JC_seq ?_))
  refine JC_region ?_
  refine JL_1 rfl (op_assign rfl) ?_
  refine JL_nil ?_
  refine JQ_then (JC_seq (JC_seq ?_))
  refine JC_region ?_
  refine JL_1 rfl (op_assign rfl) ?_
  refine JL_nil ?_
  refine JQ_then (JC_block ?_)
  refine JC_loopP (fun i : Nat => i ≤ m) (fun i => [(0, Is (.pointer (some ⟨f, 0, none⟩))), (1, Is (.int .i64 0)), (5, Is (.int .i64 (cntF (hs.take i) : Nat))), (6, Is (.int .i64 (i : Nat)))]) (fun i => [blk f 166 [Is (.int .i64 98), Is (slV n nb), Is (slV 1 cb), Is (slV 1 lb), Is (slV 0 (none, 0))], buf (slV 1 cb) 160 tCn [cnOn m da ha tr po], buf (slV m ha) 4 tBl hs]) (fun i => m - i) 0 (Nat.zero_le _) esubT lessT ?_
  intro i hi
  have hle := cntF_le hs i
  refine JC_seq (JC_seq ?_)
  refine JC_region ?_
  refine JL_1 rfl (op_move rfl) ?_
  refine JL_1 rfl (op_move rfl) ?_
  refine JL_1 rfl (by exact op_nilCheck (Ev.rfl' rfl)) ?_
  refine JL_1 rfl (by exact op_fieldPtr (k := 2) (Ev.rfl' rfl) rfl rfl rfl rfl) ?_
  refine JL_1 rfl (by exact op_loadPtr (Ev.rfl' rfl) memT (by rfl) (by rfl) (by rfl)) ?_
  refine JL_1 rfl (op_move rfl) ?_
  refine JL_1 rfl (by exact op_indexBuf (k := 0) (Ev.rfl' rfl) memT (Ev.rfl' rfl) rfl rfl idxT lenT) ?_
  refine JL_1 rfl (by exact op_fieldBuf (k := 4) (Ev.rfl' rfl) memT lenT rfl rfl rfl rfl) ?_
  refine JL_1 rfl (by exact op_loadBuf (Ev.rfl' rfl) memT (show [cnOn m da ha tr po][0]? = some (cnOn m da ha tr po) from rfl) rfl rfl (by rfl)) ?_
  refine JL_1 rfl (by exact op_lenLit (Ev.rfl' rfl) rfl) ?_
  refine JL_1 rfl (op_lss (Ev.rfl' rfl) (Ev.rfl' rfl)) ?_
  refine JL_nil ?_
  refine JQ_then ?_
  refine JC_cond (Ev.rfl' rfl) (fun h5 => ?_) (fun h5 => ?_)
  · have hlt : i < hs.length := by have := of_decide_eq_true h5; omega
    clear h5
    obtain ⟨b, hx⟩ : ∃ b, hs[i]? = some b := ⟨_, List.getElem?_eq_getElem hlt⟩
    have hsu := cntF_succ hx
    refine JC_skip (JQ_then (JC_seq (JC_block (JC_seq ?_))))
    refine JC_region ?_
    refine JL_1 rfl (op_move rfl) ?_
    refine JL_1 rfl (by exact op_nilCheck (Ev.rfl' rfl)) ?_
    refine JL_1 rfl (by exact op_fieldPtr (k := 2) (Ev.rfl' rfl) rfl rfl rfl rfl) ?_
    refine JL_1 rfl (by exact op_loadPtr (Ev.rfl' rfl) memT (by rfl) (by rfl) (by rfl)) ?_
    refine JL_1 rfl (op_move rfl) ?_
    refine JL_1 rfl (by exact op_indexBuf (k := 0) (Ev.rfl' rfl) memT (Ev.rfl' rfl) rfl rfl idxT lenT) ?_
    refine JL_1 rfl (by exact op_fieldBuf (k := 4) (Ev.rfl' rfl) memT lenT rfl rfl rfl rfl) ?_
    refine JL_1 rfl (by exact op_loadBuf (Ev.rfl' rfl) memT (show [cnOn m da ha tr po][0]? = some (cnOn m da ha tr po) from rfl) rfl rfl (by rfl)) ?_
    refine JL_1 rfl (op_move rfl) ?_
    refine JL_1 rfl (by exact op_indexBuf (k := i) (Ev.rfl' rfl) memT (Ev.rfl' rfl) rfl rfl idxT lenT) ?_
    refine JL_1 rfl (by exact op_loadBuf0 (Ev.rfl' rfl) memT hx rfl rfl (by rfl)) ?_
    refine JL_1 rfl (op_not (Ev.rfl' rfl)) ?_
    refine JL_nil ?_
    refine JQ_then ?_
    refine JC_cond (Ev.rfl' rfl) (fun h7 => ?_) (fun h7 => ?_)
    · obtain rfl : b = false := by simpa using h7
      rw [if_neg (by decide)] at hsu
      refine JC_region ?_
      refine JL_1 rfl (op_move rfl) ?_
      refine JL_1 rfl (op_add (Ev.rfl' rfl) (Ev.rfl' rfl) wrapT) ?_
      refine JL_1 rfl (op_assign rfl) ?_
      refine JL_nil ?_
      refine JQ_block (JQ_then ?_)
      refine JC_region ?_
      refine JL_1 rfl (op_move rfl) ?_
      refine JL_1 rfl (op_add (Ev.rfl' rfl) (Ev.rfl' rfl) wrapT) ?_
      refine JL_1 rfl (op_assign rfl) ?_
      refine JL_nil ?_
      refine JQ_roundP (i + 1) (by omega) (by omega) ?_ lessT
      rw [hsu]
      exact esubT
    obtain rfl : b = true := by simpa using h7
    rw [if_pos rfl] at hsu
    refine JC_skip (JQ_block (JQ_then ?_))
    refine JC_region ?_
    refine JL_1 rfl (op_move rfl) ?_
    refine JL_1 rfl (op_add (Ev.rfl' rfl) (Ev.rfl' rfl) wrapT) ?_
    refine JL_1 rfl (op_assign rfl) ?_
    refine JL_nil ?_
    refine JQ_roundP (i + 1) (by omega) (by omega) ?_ lessT
    rw [hsu]
    exact esubT
  have hie : i = hs.length := by have := of_decide_eq_false h5; omega
  clear h5
  rw [hie, List.take_length]
  refine JC_exit (JQ_then_exit (JQ_then_exit (JQ_hit (JQ_then (JC_seq ?_)))))
  refine JC_region ?_
  refine JL_1 rfl (op_move rfl) ?_
  refine JL_1 rfl (op_assign rfl) ?_
  refine JL_nil ?_
  refine JQ_then (JC_ret ?_)
  exact JQ_retP (Bs := [Is (.int .i64 (cntF hs : Nat))]) Tryz.results76 ⟨⟨_, rfl, subT⟩, trivial⟩ () SubL.rfl' lessT
end Go.Proofs.YtfglhiciagmicaaGreat

/- Contracts: a fabric's choices; a client takes its completions. Own work. -/
namespace Go.Proofs.YtfglhiciagmicaaGreat
open Go.RowKit
set_option linter.unusedVariables false
set_option linter.unusedSimpArgs false
set_option maxRecDepth 100000
/-- The choices among the first k pairs: each names a pair with a queue, and there is one if such a pair is there. -/
structure ChP (prs : List Pr) (k : Nat) (l : List Ch) : Prop where
  all : ∀ c, c ∈ l → ∃ (j : Nat) (pr : Pr) (x : Pd) (rest : List Pd), c = ⟨-1, 0, (j : Int)⟩ ∧ prs[j]? = some pr ∧ pr.q = x :: rest
  some_ : ∀ (j : Nat) (pr : Pr), j < k → prs[j]? = some pr → pr.q ≠ [] → l ≠ []
  len : l.length ≤ k
theorem ChP.nil (prs : List Pr) : ChP prs 0 [] := ⟨fun c h => (by cases h), fun j pr h => absurd h (by omega), Nat.le_refl _⟩
theorem ChP.yes {prs : List Pr} {k : Nat} {l : List Ch} (h : ChP prs k l) {pr : Pr} (hz : prs[k]? = some pr) (hq : 0 < pr.q.length) : ChP prs (k + 1) (l ++ [⟨-1, 0, (k : Int)⟩]) := ⟨fun c hc => (by
  rcases List.mem_append.1 hc with hc | hc
  · exact h.all c hc
  · obtain rfl := List.mem_singleton.1 hc
    match hp : pr.q, hq with
    | x :: rest, _ => exact ⟨k, pr, x, rest, rfl, hz, hp⟩), fun j pr _ _ _ => by simp, by have := h.len; simp; omega⟩
theorem ChP.no {prs : List Pr} {k : Nat} {l : List Ch} (h : ChP prs k l) {pr : Pr} (hz : prs[k]? = some pr) (hq : ¬ 0 < pr.q.length) : ChP prs (k + 1) l := ⟨h.all, fun j pr' hj hz' hq' => by
  by_cases e : j = k
  · subst e
    rw [hz] at hz'
    injection hz' with hz'
    subst hz'
    exact absurd (List.length_pos_iff.2 hq') hq
  · exact h.some_ j pr' (by omega) hz' hq', Nat.le_succ_of_le h.len⟩
-- (*bodegaref6.Fabric).Choices: function 78
set_option maxHeartbeats 2000000 in
theorem Choices_ok (f n : Nat) (hn : n ≤ 5) (nb cb lb pb : WA) (prs : List Pr) (hpl : prs.length = n) : Fn Tryz.prog 78 [Is (.pointer (some ⟨f, 0, none⟩))] [blk f 166 [Is (.int .i64 98), Is (slV n nb), Is (slV 1 cb), Is (slV 1 lb), Is (slV 0 (none, 0))], buf (slV 1 lb) 164 tVal [slV n pb], buf (slV n pb) 170 tPr prs]
    (fun z : {z : List Ch × WA // ChP prs n z.1} => Is (slV z.1.1.length z.1.2)) (fun z => [blk f 166 [Is (.int .i64 98), Is (slV n nb), Is (slV 1 cb), Is (slV 1 lb), Is (slV 0 (none, 0))], buf (slV 1 lb) 164 tVal [slV n pb], buf (slV n pb) 170 tPr prs, buf (slV z.1.1.length z.1.2) 142 tCh z.1.1]) := by
  have hzl : [slV n pb][0]? = some (slV n pb) := rfl
  refine Fn.enterN Tryz.func78 Tryz.ntmps78 rfl rfl ?_
  intro c hX
  refine JC_buf0 142 tCh ?_
  refine JC_seq ?_
  refine JC_region ?_
  refine JL_1 rfl (op_assign rfl) ?_
  refine JL_nil ?_
  refine JQ_then (JC_seq ?_)
  refine JC_region ?_
  refine JL_1 rfl (op_assign rfl) ?_
  refine JL_nil ?_
  refine JQ_then (JC_seq (JC_seq ?_))
  refine JC_region ?_
  refine JL_1 rfl (op_assign rfl) ?_
  refine JL_nil ?_
  refine JQ_then (JC_block ?_)
  refine JC_loopP (fun z : Nat × (List Ch × WA) => z.1 ≤ 1 ∧ ChP prs (if z.1 = 0 then 0 else n) z.2.1) (fun z => [(0, Is (.pointer (some ⟨f, 0, none⟩))), (3, Is (slV z.2.1.length z.2.2)), (4, Is (.int .i64 (z.1 : Nat)))]) (fun z => [blk f 166 [Is (.int .i64 98), Is (slV n nb), Is (slV 1 cb), Is (slV 1 lb), Is (slV 0 (none, 0))], buf (slV 1 lb) 164 tVal [slV n pb], buf (slV n pb) 170 tPr prs, buf (slV z.2.1.length z.2.2) 142 tCh z.2.1]) (fun z => 1 - z.1) (0, [], (none, 0)) ⟨Nat.zero_le _, ChP.nil _⟩ esubT lessT ?_
  rintro ⟨c0, l0, a0⟩ ⟨hc, hch⟩
  dsimp only at hc hch ⊢
  refine JC_seq (JC_seq ?_)
  refine JC_region ?_
  refine JL_1 rfl (op_move rfl) ?_
  refine JL_1 rfl (op_move rfl) ?_
  refine JL_1 rfl (by exact op_nilCheck (Ev.rfl' rfl)) ?_
  refine JL_1 rfl (by exact op_fieldPtr (k := 3) (Ev.rfl' rfl) rfl rfl rfl rfl) ?_
  refine JL_1 rfl (by exact op_loadPtr (Ev.rfl' rfl) memT (by rfl) (by rfl) (by rfl)) ?_
  refine JL_1 rfl (by exact op_lenLit (Ev.rfl' rfl) rfl) ?_
  refine JL_1 rfl (op_lss (Ev.rfl' rfl) (Ev.rfl' rfl)) ?_
  refine JL_nil ?_
  refine JQ_then ?_
  refine JC_cond (Ev.rfl' rfl) (fun h3 => ?_) (fun h3 => ?_)
  · obtain rfl : c0 = 0 := by have := of_decide_eq_true h3; omega
    clear h3
    have hch0 : ChP prs 0 l0 := hch
    refine JC_skip (JQ_then (JC_seq (JC_block (JC_seq ?_))))
    refine JC_region ?_
    refine JL_1 rfl (op_assign rfl) ?_
    refine JL_nil ?_
    refine JQ_then (JC_block ?_)
    refine JC_loopP (fun z : Nat × (List Ch × WA) => z.1 ≤ n ∧ ChP prs z.1 z.2.1) (fun z => [(0, Is (.pointer (some ⟨f, 0, none⟩))), (3, Is (slV z.2.1.length z.2.2)), (4, Is (.int .i64 (0 : Nat))), (5, Is (.int .i64 (z.1 : Nat)))]) (fun z => [blk f 166 [Is (.int .i64 98), Is (slV n nb), Is (slV 1 cb), Is (slV 1 lb), Is (slV 0 (none, 0))], buf (slV 1 lb) 164 tVal [slV n pb], buf (slV n pb) 170 tPr prs, buf (slV z.2.1.length z.2.2) 142 tCh z.2.1]) (fun z => n - z.1) (0, l0, a0) ⟨Nat.zero_le _, hch0⟩ esubT lessT ?_
    rintro ⟨i, l, a⟩ ⟨hi, hcl⟩
    dsimp only at hi hcl ⊢
    have hll := hcl.len
    refine JC_seq (JC_seq ?_)
    refine JC_region ?_
    refine JL_1 rfl (op_move rfl) ?_
    refine JL_1 rfl (op_move rfl) ?_
    refine JL_1 rfl (by exact op_nilCheck (Ev.rfl' rfl)) ?_
    refine JL_1 rfl (by exact op_fieldPtr (k := 3) (Ev.rfl' rfl) rfl rfl rfl rfl) ?_
    refine JL_1 rfl (by exact op_loadPtr (Ev.rfl' rfl) memT (by rfl) (by rfl) (by rfl)) ?_
    refine JL_1 rfl (op_move rfl) ?_
    refine JL_1 rfl (by exact op_indexBuf (k := 0) (Ev.rfl' rfl) memT (Ev.rfl' rfl) rfl rfl idxT lenT) ?_
    refine JL_1 rfl (by exact op_loadBuf0 (Ev.rfl' rfl) memT hzl rfl rfl (by rfl)) ?_
    refine JL_1 rfl (by exact op_lenLit (Ev.rfl' rfl) rfl) ?_
    refine JL_1 rfl (op_lss (Ev.rfl' rfl) (Ev.rfl' rfl)) ?_
    refine JL_nil ?_
    refine JQ_then ?_
    refine JC_cond (Ev.rfl' rfl) (fun h6 => ?_) (fun h6 => ?_)
    · have hlt : i < prs.length := by have := of_decide_eq_true h6; omega
      clear h6
      obtain ⟨pr, hz⟩ : ∃ d, prs[i]? = some d := ⟨_, List.getElem?_eq_getElem hlt⟩
      refine JC_skip (JQ_then (JC_seq (JC_block (JC_seq ?_))))
      refine JC_region ?_
      refine JL_1 rfl (op_move rfl) ?_
      refine JL_1 rfl (by exact op_nilCheck (Ev.rfl' rfl)) ?_
      refine JL_1 rfl (by exact op_fieldPtr (k := 3) (Ev.rfl' rfl) rfl rfl rfl rfl) ?_
      refine JL_1 rfl (by exact op_loadPtr (Ev.rfl' rfl) memT (by rfl) (by rfl) (by rfl)) ?_
      refine JL_1 rfl (op_move rfl) ?_
      refine JL_1 rfl (by exact op_indexBuf (k := 0) (Ev.rfl' rfl) memT (Ev.rfl' rfl) rfl rfl idxT lenT) ?_
      refine JL_1 rfl (by exact op_loadBuf0 (Ev.rfl' rfl) memT hzl rfl rfl (by rfl)) ?_
      refine JL_1 rfl (op_move rfl) ?_
      refine JL_1 rfl (by exact op_indexBuf (k := i) (Ev.rfl' rfl) memT (Ev.rfl' rfl) rfl rfl idxT lenT) ?_
      refine JL_1 rfl (by exact op_fieldBuf (k := 3) (Ev.rfl' rfl) memT lenT rfl rfl rfl rfl) ?_
      refine JL_1 rfl (by exact op_loadBuf (Ev.rfl' rfl) memT hz rfl rfl (by rfl)) ?_
      refine JL_1 rfl (by exact op_len (Ev.rfl' rfl) rfl) ?_
      refine JL_1 rfl (op_gtr (Ev.rfl' rfl) (Ev.rfl' rfl)) ?_
      refine JL_nil ?_
      refine JQ_then ?_
      refine JC_cond (Ev.rfl' rfl) (fun h8 => ?_) (fun h8 => ?_)
      · have hq : 0 < pr.q.length := by have := of_decide_eq_true h8; omega
        clear h8
        refine JC_region ?_
        refine JL_1 rfl (op_move rfl) ?_
        refine JL_1 rfl (op_move rfl) ?_
        refine JL_1 rfl (op_move rfl) ?_
        refine JL_1 rfl (op_buildN (qs := [(0, _), (1, _), (2, _)]) rfl rfl rfl rfl ⟨⟨rfl, _, (Ev.rfl' rfl), cellsT⟩, ⟨⟨rfl, _, (Ev.rfl' rfl), cellsT⟩, ⟨⟨rfl, _, (Ev.rfl' rfl), cellsT⟩, trivial⟩⟩⟩ (by rfl) nrmT) ?_
        refine JL_1 rfl (op_buildSlice (size := 3) (qs := [(0, _)]) rfl rfl rfl ⟨⟨rfl, _, (Ev.rfl' rfl), cellsT⟩, trivial⟩ (by rfl) (by rfl)) ?_
        (refine JL_s rfl (op_app (Ev.rfl' rfl) (fun _ => replT) (by exact Ev.sub rfl (by exact SubL.row (xs := [(⟨-1, 0, (i : Nat)⟩ : Ch)]) (by rfl) (by rfl) subsT)) (by exact appT rfl rfl rfl) lenT) ?_; intro i46)
        refine JL_1 rfl (op_assign rfl) ?_
        refine JL_nil ?_
        refine JQ_block (JQ_then ?_)
        refine JC_region ?_
        refine JL_1 rfl (op_move rfl) ?_
        refine JL_1 rfl (op_add (Ev.rfl' rfl) (Ev.rfl' rfl) wrapT) ?_
        refine JL_1 rfl (op_assign rfl) ?_
        refine JL_nil ?_
        first
          | exact JQ_roundP (i + 1, l ++ [⟨-1, 0, (i : Nat)⟩], i46) ⟨by dsimp only; omega, hcl.yes hz hq⟩ (by dsimp only; omega) esubT lessT
          | exact JQ_roundP (i + 1, l, a) ⟨by dsimp only; omega, hcl.no hz (by simpa using h8)⟩ (by dsimp only; omega) esubT lessT
      refine JC_skip (JQ_block (JQ_then ?_))
      refine JC_region ?_
      refine JL_1 rfl (op_move rfl) ?_
      refine JL_1 rfl (op_add (Ev.rfl' rfl) (Ev.rfl' rfl) wrapT) ?_
      refine JL_1 rfl (op_assign rfl) ?_
      refine JL_nil ?_
      first
        | exact JQ_roundP (i + 1, l ++ [⟨-1, 0, (i : Nat)⟩], i46) ⟨by dsimp only; omega, hcl.yes hz hq⟩ (by dsimp only; omega) esubT lessT
        | exact JQ_roundP (i + 1, l, a) ⟨by dsimp only; omega, hcl.no hz (by simpa using h8)⟩ (by dsimp only; omega) esubT lessT
    have hie : i = n := by have := of_decide_eq_false h6; omega
    clear h6
    subst hie
    refine JC_exit (JQ_then_exit (JQ_then_exit (JQ_hit (JQ_block (JQ_then ?_)))))
    refine JC_region ?_
    refine JL_1 rfl (op_move rfl) ?_
    refine JL_1 rfl (op_add (Ev.rfl' rfl) (Ev.rfl' rfl) wrapT) ?_
    refine JL_1 rfl (op_assign rfl) ?_
    refine JL_nil ?_
    exact JQ_roundP (1, l, a) ⟨Nat.le_refl _, hcl⟩ (by dsimp only; omega) esubT lessT
  obtain rfl : c0 = 1 := by have := of_decide_eq_false h3; omega
  clear h3
  have hch0 : ChP prs n l0 := hch
  refine JC_exit (JQ_then_exit (JQ_then_exit (JQ_hit (JQ_then (JC_seq (JC_seq ?_))))))
  refine JC_region ?_
  refine JL_1 rfl (op_assign rfl) ?_
  refine JL_nil ?_
  refine JQ_then (JC_block ?_)
  refine JC_loopP (fun _ : Unit => True) (fun _ => [(0, Is (.pointer (some ⟨f, 0, none⟩))), (3, Is (slV l0.length a0)), (6, Is (.int .i64 0))]) (fun _ => [blk f 166 [Is (.int .i64 98), Is (slV n nb), Is (slV 1 cb), Is (slV 1 lb), Is (slV 0 (none, 0))], buf (slV 1 lb) 164 tVal [slV n pb], buf (slV n pb) 170 tPr prs, buf (slV l0.length a0) 142 tCh l0]) (fun _ => 0) () trivial esubT lessT ?_
  rintro _ _
  refine JC_seq (JC_seq ?_)
  refine JC_region ?_
  refine JL_1 rfl (op_move rfl) ?_
  refine JL_1 rfl (op_move rfl) ?_
  refine JL_1 rfl (by exact op_nilCheck (Ev.rfl' rfl)) ?_
  refine JL_1 rfl (by exact op_fieldPtr (k := 4) (Ev.rfl' rfl) rfl rfl rfl rfl) ?_
  refine JL_1 rfl (by exact op_loadPtr (Ev.rfl' rfl) memT (by rfl) (by rfl) (by rfl)) ?_
  refine JL_1 rfl (by exact op_lenLit (Ev.rfl' rfl) rfl) ?_
  refine JL_1 rfl (op_lss (Ev.rfl' rfl) (Ev.rfl' rfl)) ?_
  refine JL_nil ?_
  refine JQ_then ?_
  refine JC_cond (Ev.rfl' rfl) (fun h11 => ?_) (fun h11 => ?_)
  · exact absurd h11 (by decide)
  refine JC_exit (JQ_then_exit (JQ_then_exit (JQ_hit (JQ_then (JC_seq ?_)))))
  refine JC_region ?_
  refine JL_1 rfl (op_move rfl) ?_
  refine JL_1 rfl (op_assign rfl) ?_
  refine JL_nil ?_
  refine JQ_then (JC_ret ?_)
  exact JQ_retP (Bs := [Is (slV l0.length a0)]) Tryz.results78 ⟨⟨_, rfl, subT⟩, trivial⟩ ⟨(l0, a0), hch0⟩ SubL.rfl' lessT
/-- A client without a batch. -/
@[reducible] def cnOff (tr po : Int) : Cn := ⟨true, 1, false, .slice none 0 0, .slice none 0 0, tr, po⟩
-- (*bodegaref6.Fabric).Take: function 79
set_option maxHeartbeats 1000000 in
theorem Take_ok (f n m : Nat) (hm : m ≤ 1024) (nb cb lb da ha : WA) (tr po : Int) (hs : List Bool) (hl : hs.length = m) (h0 : cntF hs = 0) : Fn Tryz.prog 79 [Is (.pointer (some ⟨f, 0, none⟩)), Is (.int .i64 0)] [blk f 166 [Is (.int .i64 98), Is (slV n nb), Is (slV 1 cb), Is (slV 1 lb), Is (slV 0 (none, 0))], buf (slV 1 cb) 160 tCn [cnOn m da ha tr po], buf (slV m ha) 4 tBl hs]
    (fun _ : Unit => IsTup [Is (slV m da), Is (.bool true)]) (fun _ => [blk f 166 [Is (.int .i64 98), Is (slV n nb), Is (slV 1 cb), Is (slV 1 lb), Is (slV 0 (none, 0))], buf (slV 1 cb) 160 tCn [cnOff tr po], buf (slV m ha) 4 tBl hs]) := by
  refine Fn.enterN Tryz.func79 Tryz.ntmps79 rfl rfl ?_
  intro c hX
  refine JC_seq ?_
  refine JC_region ?_
  refine JL_1 rfl (op_assign rfl) ?_
  refine JL_1 rfl (op_assign rfl) ?_
  refine JL_nil ?_
  refine JQ_then (JC_seq (JC_seq ?_))
  refine JC_region ?_
  refine JL_1 rfl (op_move rfl) ?_
  refine JL_1 rfl (op_move rfl) ?_
  (refine JL_s rfl (op_callM (Drops.cons drop1A (Drops.cons drop1A (Drops.nil _))) Tryz.call90 (alive_ok f n nb cb lb (cnOn m da ha tr po)) ⟨evS, ⟨evS, trivial⟩⟩) ?_; intro i9)
  refine JL_1 rfl (op_not (Ev.rfl' rfl)) ?_
  refine JL_1 rfl (op_move rfl) ?_
  (refine JL_i0 rfl rfl rfl (fun hg => (by have hg0 := hg; (try simp at hg); exact op_moveE (Ev.rfl' rfl))) ?_)
  (refine JL_i0 rfl rfl rfl (fun hg => (by have hg0 := hg; (try simp at hg); exact op_nilCheck evG)) ?_)
  (refine JL_i0 rfl rfl rfl (fun hg => (by have hg0 := hg; (try simp at hg); exact op_fieldPtr (k := 2) evG rfl rfl rfl rfl)) ?_)
  (refine JL_i0 rfl rfl rfl (fun hg => (by have hg0 := hg; (try simp at hg); exact op_loadPtr evG memT (by rfl) (by rfl) (by rfl))) ?_)
  (refine JL_i0 rfl rfl rfl (fun hg => (by have hg0 := hg; (try simp at hg); exact op_moveE (Ev.rfl' rfl))) ?_)
  (refine JL_i0 rfl rfl rfl (fun hg => (by have hg0 := hg; (try simp at hg); exact op_indexBuf (k := 0) evG memT evG rfl rfl idxT lenT)) ?_)
  (refine JL_i0 rfl rfl rfl (fun hg => (by have hg0 := hg; (try simp at hg); exact op_fieldBuf (k := 2) evG memT lenT rfl rfl rfl rfl)) ?_)
  (refine JL_i0 rfl rfl rfl (fun hg => (by have hg0 := hg; (try simp at hg); exact op_loadBuf evG memT (show [cnOn m da ha tr po][0]? = some (cnOn m da ha tr po) from rfl) rfl rfl (by rfl))) ?_)
  (refine JL_i0 rfl rfl rfl (fun hg => (by have hg0 := hg; (try simp at hg); exact op_not evG)) ?_)
  refine JL_1 rfl (op_or (Ev.rfl' rfl) rfl (fun h => by exact SubL.rfl')) ?_
  refine JL_1 rfl (op_move rfl) ?_
  (refine JL_i0 rfl rfl rfl (fun hg => (by have hg0 := hg; (try simp at hg); exact op_moveE (Ev.rfl' rfl))) ?_)
  (refine JL_i0 rfl rfl rfl (fun hg => (by have hg0 := hg; (try simp at hg); exact op_moveE (Ev.rfl' rfl))) ?_)
  (refine JL_yes rfl rfl rfl rfl (by rfl) (op_callM (Drops.cons drop1A (Drops.cons drop1A (Drops.cons drop1A (Drops.nil _)))) Tryz.call76 (Waiting_ok f n m hm nb cb lb da ha tr po hs hl) ⟨evS, ⟨evS, trivial⟩⟩) ?_; intro i25)
  (refine JL_i0 rfl rfl rfl (fun hg => (by have hg0 := hg; (try simp at hg); exact op_gtr evG evG)) ?_)
  refine JL_1 rfl (op_or (Ev.rfl' rfl) rfl (fun h => by exact SubL.rfl')) ?_
  refine JL_nil ?_
  refine JQ_then ?_
  refine JC_cond (Ev.rfl' rfl) (fun h1 => ?_) (fun h1 => ?_)
  · exact absurd h1 (by simp [h0])
  refine JC_skip (JQ_then (JC_seq ?_))
  refine JC_region ?_
  refine JL_1 rfl (op_move rfl) ?_
  refine JL_1 rfl (by exact op_nilCheck (Ev.rfl' rfl)) ?_
  refine JL_1 rfl (by exact op_fieldPtr (k := 2) (Ev.rfl' rfl) rfl rfl rfl rfl) ?_
  refine JL_1 rfl (by exact op_loadPtr (Ev.rfl' rfl) memT (by rfl) (by rfl) (by rfl)) ?_
  refine JL_1 rfl (op_move rfl) ?_
  refine JL_1 rfl (by exact op_indexBuf (k := 0) (Ev.rfl' rfl) memT (Ev.rfl' rfl) rfl rfl idxT lenT) ?_
  refine JL_1 rfl (by exact op_fieldBuf (k := 3) (Ev.rfl' rfl) memT lenT rfl rfl rfl rfl) ?_
  refine JL_1 rfl (by exact op_loadBuf (Ev.rfl' rfl) memT (show [cnOn m da ha tr po][0]? = some (cnOn m da ha tr po) from rfl) rfl rfl (by rfl)) ?_
  refine JL_1 rfl (op_assign rfl) ?_
  refine JL_nil ?_
  refine JQ_then (JC_seq ?_)
  refine JC_dr rfl (by kernel_rfl) ?_
  refine JD_phase [0, 1, 1, 1, 0, 0, 1, 1, 1, 0, 0, 1, 1, 1, 0, 1, 1, 2, 1, 1, 2, 1, 1, 2] (by kernel_rfl) (by kernel_rfl) ?_
  refine PW_0 (op_move rfl) ?_
  refine PW_1 (by exact op_nilCheck (Ev.rfl' rfl)) ?_
  refine PW_1 (by exact op_fieldPtr (k := 2) (Ev.rfl' rfl) rfl rfl rfl rfl) ?_
  refine PW_1 (by exact op_loadPtr (Ev.rfl' rfl) memT (by rfl) (by rfl) (by rfl)) ?_
  refine PW_0 (op_move rfl) ?_
  refine PW_0 (op_move rfl) ?_
  refine PW_1 (by exact op_nilCheck (Ev.rfl' rfl)) ?_
  refine PW_1 (by exact op_fieldPtr (k := 2) (Ev.rfl' rfl) rfl rfl rfl rfl) ?_
  refine PW_1 (by exact op_loadPtr (Ev.rfl' rfl) memT (by rfl) (by rfl) (by rfl)) ?_
  refine PW_0 (op_move rfl) ?_
  refine PW_0 (op_move rfl) ?_
  refine PW_1 (by exact op_nilCheck (Ev.rfl' rfl)) ?_
  refine PW_1 (by exact op_fieldPtr (k := 2) (Ev.rfl' rfl) rfl rfl rfl rfl) ?_
  refine PW_1 (by exact op_loadPtr (Ev.rfl' rfl) memT (by rfl) (by rfl) (by rfl)) ?_
  refine PW_0 (op_move rfl) ?_
  refine PW_1 (by exact op_indexBuf (k := 0) (Ev.rfl' rfl) memT (Ev.rfl' rfl) rfl rfl idxT lenT) ?_
  refine PW_1 (by exact op_fieldBuf (k := 2) (Ev.rfl' rfl) memT lenT rfl rfl rfl rfl) ?_
  refine PW_2 (by exact op_storeBuf (z' := (⟨true, 1, false, slV m da, slV m ha, tr, po⟩ : Cn)) (Ev.rfl' rfl) (Ev.rfl' rfl) cellsT replT (show [cnOn m da ha tr po][0]? = some (cnOn m da ha tr po) from rfl) rfl (by rfl) (by rfl)) ?_
  refine PW_1 (by exact op_indexBuf (k := 0) (Ev.rfl' rfl) memT (Ev.rfl' rfl) rfl rfl idxT lenT) ?_
  refine PW_1 (by exact op_fieldBuf (k := 3) (Ev.rfl' rfl) memT lenT rfl rfl rfl rfl) ?_
  refine PW_2 (by exact op_storeBuf (z' := (⟨true, 1, false, .slice none 0 0, slV m ha, tr, po⟩ : Cn)) (Ev.rfl' rfl) (Ev.rfl' rfl) cellsT replT (show [(⟨true, 1, false, slV m da, slV m ha, tr, po⟩ : Cn)][0]? = _ from rfl) rfl (by rfl) (by rfl)) ?_
  refine PW_1 (by exact op_indexBuf (k := 0) (Ev.rfl' rfl) memT (Ev.rfl' rfl) rfl rfl idxT lenT) ?_
  refine PW_1 (by exact op_fieldBuf (k := 4) (Ev.rfl' rfl) memT lenT rfl rfl rfl rfl) ?_
  refine PW_2 (by exact op_storeBuf (z' := (⟨true, 1, false, .slice none 0 0, .slice none 0 0, tr, po⟩ : Cn)) (Ev.rfl' rfl) (Ev.rfl' rfl) cellsT replT (show [(⟨true, 1, false, .slice none 0 0, slV m ha, tr, po⟩ : Cn)][0]? = _ from rfl) rfl (by rfl) (by rfl)) ?_
  refine PW_end ?_
  refine JD_end ?_
  refine JQ_then (JC_seq ?_)
  refine JC_region ?_
  refine JL_1 rfl (op_move rfl) ?_
  refine JL_1 rfl (op_assign rfl) ?_
  refine JL_1 rfl (op_assign rfl) ?_
  refine JL_nil ?_
  refine JQ_then (JC_ret ?_)
  exact JQ_retP (Bs := [Is (slV m da), Is (.bool true)]) Tryz.results79 ⟨⟨_, rfl, subT⟩, ⟨⟨_, rfl, subT⟩, trivial⟩⟩ () SubL.rfl' lessT
end Go.Proofs.YtfglhiciagmicaaGreat

/- A drawn region in which what one operation makes is named before all others have come up: two phases. Own work. -/
namespace Go.Proofs.YtfglhiciagmicaaGreat
open Go.RowKit
set_option linter.unusedVariables false
set_option linter.unusedSimpArgs false
section
variable {P : Program} {ops : Array Oper} {c : Ctx} {N : Nat} {L : List Item}
/-- Some of a stretch must come up (sp); some have come up before (dn). -/
theorem stretchX {Q : Exit → Act → World → Prop} {nd : List Nat} (hg : Good ops nd) (hN : opsAll (fun _ o => dstB N o.dst) ops.toList 0 = true) {k n : Nat} (sp dn : Nat → Bool)
    (hS : ∀ i j, k ≤ i → i < k + n → sp i = true → k + n ≤ j → j < ops.size → (ndOf nd j).testBit i = true) (hkn : k + n ≤ ops.size)
    {m : List Ent} {A0 : Nat → Option Out} (hm : m.length = n) (hmi : ∀ i x, m[i]? = some x → x.i = k + i ∧ ops[k + i]? = some x.o)
    (hop : ∀ m1 x m2, m = m1 ++ x :: m2 → (dn x.i = false → LocOp P ops c L x.o (acc (fun _ => true) m1 A0) x.F x.kl) ∧ KillOk ops nd x.i x.o (acc (fun _ => true) m1 A0) x.kl)
    (next : ∀ φ a w listed, Cl ops nd listed → (∀ i, i < k → listed.getD i true = true) → (∀ i, k + n ≤ i → i < ops.size → listed.getD i true = false) → (∀ i, k ≤ i → i < k + n → sp i = true → listed.getD i true = true) → SS c N (acc (fun i => listed.getD i false) m A0) L φ a w → wpAny P .any ops Q (unl ops.size listed) listed a w) :
    ∀ (u : Nat) (φ : Fz) (a : Act) (w : World) (listed : Array Bool), unl ops.size listed = u → Cl ops nd listed → (∀ i, i < k → listed.getD i true = true) → (∀ i, k + n ≤ i → i < ops.size → listed.getD i true = false) → (∀ i, dn i = true → listed.getD i true = true) →
      SS c N (acc (fun i => listed.getD i false) m A0) L φ a w → wpAny P .any ops Q u listed a w := by
  intro u
  induction u with
  | zero =>
    intro φ a w listed hu hc hlo hhi hdn st
    have hall := unl_zero hu
    rw [← hu]
    exact next φ a w listed hc hlo hhi (fun i _ hi _ => hall i (by omega)) st
  | succ u ih =>
    intro φ a w listed hu hc hlo hhi hdn st
    by_cases hdone : ∃ i, k ≤ i ∧ i < k + n ∧ sp i = true ∧ listed.getD i true = false
    · obtain ⟨is, his0, his1, his2, his3⟩ := hdone
      obtain ⟨i0, hi0, hu0, hl0⟩ := exists_least_unl (listed := listed) (k + n) ⟨is, his1, his3⟩
      have hr0 := ready_least hg hc.size (by omega) hu0 hl0
      refine ⟨fun h => (by rw [h] at hr0; cases hr0), fun i hi => ?_⟩
      obtain ⟨hiu, oi, hoi, hiall⟩ := mem_ready.1 hi
      have hilt : i < ops.size := (Array.getElem?_eq_some_iff.1 hoi).1
      have hik : k ≤ i := by
        rcases Nat.lt_or_ge i k with h | h
        · have := hlo i h; rw [hiu] at this; cases this
        · exact h
      have hin : i < k + n := by
        rcases Nat.lt_or_ge i (k + n) with h | h
        · exact h
        · exfalso
          have h4 := ready_need hg hc hi (hS is i his0 his1 his2 h hilt)
          rw [getD_tf his3] at h4; cases h4
      have hdi : dn i = false := by
        cases hv : dn i with
        | false => rfl
        | true => have := hdn i hv; rw [hiu] at this; cases this
      have hp : (i - k) < m.length := by omega
      obtain ⟨x, hx⟩ : ∃ x, m[i - k]? = some x := ⟨m[i - k], by simp [hp]⟩
      obtain ⟨ex1, ex2⟩ := hmi (i - k) x hx
      rw [show k + (i - k) = i by omega] at ex1 ex2
      have hox : x.o = oi := Option.some.inj (ex2.symm.trans hoi)
      obtain ⟨m1, m2, hsplit, hm1⟩ : ∃ m1 m2, m = m1 ++ x :: m2 ∧ m1.length = i - k := by
        refine ⟨m.take (i - k), m.drop (i - k + 1), ?_, by simp; omega⟩
        have h1 : m.drop (i - k) = x :: m.drop (i - k + 1) := by
          rw [List.drop_eq_getElem_cons hp]
          congr 1
          rw [List.getElem?_eq_getElem hp] at hx
          exact Option.some.inj hx
        rw [← h1, List.take_append_drop]
      have idx1 : ∀ y, y ∈ m1 → y.i < i ∧ ops[y.i]? = some y.o := fun y hy => by
        obtain ⟨q, hq⟩ := List.mem_iff_getElem?.1 hy
        have hql : q < m1.length := (List.getElem?_eq_some_iff.1 hq).1
        have hq' : m[q]? = some y := by rw [hsplit, List.getElem?_append_left hql]; exact hq
        obtain ⟨e1, e2⟩ := hmi q y hq'
        exact ⟨by omega, by rw [e1]; exact e2⟩
      have idx2 : ∀ y, y ∈ m2 → i < y.i ∧ ops[y.i]? = some y.o := fun y hy => by
        obtain ⟨q, hq⟩ := List.mem_iff_getElem?.1 hy
        have hq' : m[m1.length + 1 + q]? = some y := by
          rw [hsplit, List.getElem?_append_right (by omega), show m1.length + 1 + q - m1.length = q + 1 by omega]
          simpa using hq
        obtain ⟨e1, e2⟩ := hmi _ y hq'
        exact ⟨by omega, by rw [e1]; exact e2⟩
      have hiL : i < listed.size := by rw [hc.size]; exact hilt
      have hkm : ∀ y, y ∈ m → ∀ s, y.kl = some s → (s ∈ y.o.looksAt ops ∨ wrB y.o = true) ∧ ∀ j x, ops[j]? = some x → s ∈ namesOf ops x ∨ (s ∉ y.o.looksAt ops ∧ wrB y.o = true ∧ wrB x = true) → j ≠ y.i → (y.i < j → (ndOf nd j).testBit y.i = true) ∧ (j < y.i → (ndOf nd y.i).testBit j = true) := fun y hy s hs => by
        obtain ⟨p1, p2, hp12⟩ := List.append_of_mem hy
        have := (hop p1 y p2 hp12).2 s hs
        exact ⟨this.1.1, this.2⟩
      have hxm : x ∈ m := by rw [hsplit]; exact List.mem_append_right _ (List.mem_cons_self ..)
      have ordd : ∀ y, y ∈ m → y.i ≠ i → ops[y.i]? = some y.o → (∃ t, y.tch t ∧ (t ∈ namesOf ops oi ∨ x.kl = some t)) → (i < y.i → (ndOf nd y.i).testBit i = true) ∧ (y.i < i → (ndOf nd i).testBit y.i = true) := fun y hym hne h2 ⟨t, ht, htn⟩ => by
        rcases htn with htn | htn
        · rcases ht with ht | ht
          · have := hg.ord y.i y.o t i oi h2 ht hoi htn (fun e => hne e)
            exact ⟨this.2, this.1⟩
          · have := (hkm y hym t ht).2 i oi hoi (.inl htn) (fun e => hne e.symm)
            exact ⟨this.2, this.1⟩
        · have hx1 := hkm x hxm t htn
          rw [hox, ex1] at hx1
          rcases ht with ht | ht
          · have := hx1.2 y.i y.o h2 (.inl (List.mem_append_right _ (by rw [ht]; simp))) hne
            exact this
          · by_cases htl : t ∈ namesOf ops y.o
            · exact hx1.2 y.i y.o h2 (.inl htl) hne
            · have hyd : wrB y.o = true := (hkm y hym t ht).1.resolve_left fun e => htl (List.mem_append_left _ e)
              by_cases htx : t ∈ namesOf ops oi
              · have := (hkm y hym t ht).2 i oi hoi (.inl htx) (fun e => hne e.symm)
                exact ⟨this.2, this.1⟩
              · have hxl : t ∉ oi.looksAt ops := fun e => htx (List.mem_append_left _ e)
                have hxd : wrB oi = true := hx1.1.resolve_left hxl
                exact hx1.2 y.i y.o h2 (.inr ⟨hxl, hxd, hyd⟩) hne
      have later : ∀ y, y ∈ m2 → (∃ t, y.tch t ∧ (t ∈ namesOf ops oi ∨ x.kl = some t)) → listed.getD y.i false = false := fun y hy ht => by
        obtain ⟨h1, h2⟩ := idx2 y hy
        have hym : y ∈ m := by rw [hsplit]; exact List.mem_append_right _ (List.mem_cons_of_mem _ hy)
        cases hv : listed.getD y.i false with
        | false => rfl
        | true =>
          have h3 := (ordd y hym (by omega) h2 ht).1 h1
          have h4 := hc.cl _ hv i h3
          rw [getD_tf hiu] at h4; cases h4
      have earlier : ∀ y, y ∈ m1 → (∃ t, y.tch t ∧ (t ∈ namesOf ops oi ∨ x.kl = some t)) → listed.getD y.i false = true := fun y hy ht => by
        obtain ⟨h1, h2⟩ := idx1 y hy
        have hym : y ∈ m := by rw [hsplit]; exact List.mem_append_left _ hy
        have h3 := (ordd y hym (by omega) h2 ht).2 h1
        exact ready_need hg hc hi h3
      have hsame : ∀ t, t ∈ oi.looksAt ops ∨ x.kl = some t → acc (fun i => listed.getD i false) m A0 t = acc (fun _ => true) m1 A0 t := fun t ht => by
        have htn : t ∈ namesOf ops oi ∨ x.kl = some t := ht.imp (List.mem_append_left _) id
        rw [hsplit, acc_append]
        have h1 : acc (fun i => listed.getD i false) (x :: m2) (acc (fun i => listed.getD i false) m1 A0) t = acc (fun i => listed.getD i false) m1 A0 t := by
          refine acc_skip fun y hy hyt => ?_
          rcases List.mem_cons.1 hy with rfl | hy
          · show listed.getD y.i false = false
            rw [ex1]; exact getD_tf hiu
          · exact later y hy ⟨t, hyt, htn⟩
        rw [h1]
        exact acc_congr rfl fun y hy hyt => earlier y hy ⟨t, hyt, htn⟩
      have hloc : LocOp P ops c L oi (acc (fun i => listed.getD i false) m A0) x.F x.kl := by
        have h0 := (hop m1 x m2 hsplit).1 (by rw [ex1]; exact hdi)
        rw [hox] at h0
        exact h0.congr hsame
      have hkok : ∀ s, x.kl = some s → (s ∈ oi.looksAt ops ∨ wrB oi = true) ∧ ∃ (ι : Type) (val : ι → Value) (I : ι → Item), acc (fun i => listed.getD i false) m A0 s = some (.own val I) := fun s hs => by
        obtain ⟨⟨h1, ι, val, I, h2⟩, _⟩ := (hop m1 x m2 hsplit).2 s hs
        rw [hox] at h1
        exact ⟨h1, ι, val, I, by rw [hsame s (.inr hs)]; exact h2⟩
      have hget : ∀ j, j ≠ i → (listed.setIfInBounds i true).getD j false = listed.getD j false := fun j hj => getD_set_ne false (Ne.symm hj)
      have hacc : ∀ t, putO (killO (acc (fun i => listed.getD i false) m A0) x.kl) (tgt oi x.kl) x.F t = acc (fun j => (listed.setIfInBounds i true).getD j false) m A0 t := fun t => by
        have hiT : (listed.setIfInBounds i true).getD i false = true := by simp [hiL]
        have happ : putO (killO (acc (fun i => listed.getD i false) m A0) x.kl) (tgt oi x.kl) x.F = x.app (acc (fun i => listed.getD i false) m A0) := by unfold Ent.app; rw [hox]
        rw [happ]
        by_cases hd : x.tch t
        · rw [hsplit, acc_append, acc_append]
          simp only [acc]
          rw [ex1, hiT]
          simp only [cond_true]
          have hnm : t ∈ namesOf ops oi ∨ x.kl = some t := by
            rcases hd with hd | hd
            · rw [hox] at hd; exact .inl (by unfold namesOf; rw [hd]; simp)
            · exact .inr hd
          have h2 : acc (fun j => (listed.setIfInBounds i true).getD j false) m2 (x.app (acc (fun j => (listed.setIfInBounds i true).getD j false) m1 A0)) t = x.app (acc (fun j => (listed.setIfInBounds i true).getD j false) m1 A0) t := by
            refine acc_skip fun y hy hyt => ?_
            obtain ⟨h1, _⟩ := idx2 y hy
            rw [hget y.i (by omega)]
            exact later y hy ⟨t, hyt, hnm⟩
          rw [h2]
          exact Ent.app_same (.inl hd)
        · rw [Ent.app_ne hd]
          refine acc_congr rfl fun y hy hyt => (hget y.i fun hyi => ?_).symm
          have hyx : y = x := by
            obtain ⟨q, hq⟩ := List.mem_iff_getElem?.1 hy
            obtain ⟨e1, e2⟩ := hmi q y hq
            have hqi : q = i - k := by omega
            rw [hqi, hx] at hq
            exact (Option.some.inj hq).symm
          rw [hyx] at hyt
          exact hd hyt
      have hunl : unl ops.size (listed.setIfInBounds i true) = u := by
        have := unl_set hiL hiu hilt; omega
      obtain ⟨M, hM1, hM2, hM3⟩ := SS.takes (ops := ops) (o := oi) (kl := x.kl) st hkok
      have hnext : ∀ φ' v w', x.F.post M φ w φ' (res oi x.kl a v) w' → wpAny P .any ops Q u (listed.setIfInBounds i true) (a.put oi.dst v) w' := fun φ' v w' hpost => by
        have h9 := (hM3 (tgt oi x.kl) x.F φ' (res oi x.kl a v) w' (fun t ht => ?_) hpost).congr hacc
        · rw [put_res] at h9
          refine ih φ' _ w' _ hunl (hc.set hg hi) (fun j hj => ?_) (fun j hj hj' => ?_) (fun j hj => ?_) h9
          · rw [getD_set_ne true (by omega)]; exact hlo j hj
          · rw [getD_set_ne true (by omega)]; exact hhi j hj hj'
          · by_cases hji : j = i
            · subst hji; rw [hdi] at hj; cases hj
            · rw [getD_set_ne true (Ne.symm hji)]; exact hdn j hj
        · cases hd : oi.dst with
          | some d =>
            rw [tgt_some hd] at ht
            injection ht with ht
            subst ht
            have := opsAll_spec hN i oi (by simpa using hoi)
            exact .inl (dstB_spec this _ hd)
          | none =>
            rw [tgt_kl hd] at ht
            rw [ht, res_kl hd]
            exact .inr rfl
      have hfin := hloc φ a w _ Q M hM1 hM2 (fun t ht B hB => by
        cases hA : acc (fun i => listed.getD i false) m A0 t with
        | none => rw [hA] at hB; cases hB
        | some D =>
          rw [hA] at hB
          cases D with
          | v D => obtain rfl : D = B := by simpa [Out.toV] using hB
                   exact st.env t D hA
          | own val I => cases hB) hnext
      unfold wpOp
      simp only [hoi]
      split
      · rename_i hw
        rw [hw] at hfin
        exact .inl (by simpa using hfin)
      · rename_i hw
        have hw' : Region.wanted oi (yielded ops a.tmps) = false := by simpa using hw
        rw [hw'] at hfin
        have hidle : x.kl = none ∧ x.F.idle φ := by simpa using hfin
        have hM0 : M = [] := by rw [hidle.1] at hM2; exact hM2
        subst hM0
        refine hnext φ undef w ?_
        rw [hidle.1, res_none]
        cases hF : x.F with
        | v F => rw [hF] at hidle; exact ⟨HP.start (L := []) ⟨st.mem.mem.base, by simp, List.Pairwise.nil⟩, hidle.2⟩
        | own val I => rw [hF] at hidle; exact hidle.2.elim
    · rw [← hu]
      refine next φ a w listed hc hlo hhi (fun i h1 h2 h3 => ?_) st
      cases hv : listed.getD i true with
      | true => rfl
      | false => exact absurd ⟨i, h1, h2, h3, hv⟩ hdone

theorem LocOp.more {o : Oper} {A : Nat → Option Out} {F : Out} {kl : Option Tmp} {it : Item} (h : LocOp P ops c L o A F kl) : LocOp P ops c (it :: L) o A F kl := fun φ a w K Q M hm ht hl hk =>
  h φ a w K Q M (hm.less (List.Sublist.append (List.Sublist.refl M) (List.sublist_cons_self it L))) ht hl hk
/-- What lies under a temporary is named. -/
theorem SS.openT {A : Nat → Option Out} {φ : Fz} {a : Act} {w : World} {t : Tmp} {ι : Type} {val : ι → Value} {I : ι → Item} (h : SS c N A L φ a w) (ht : A t = some (.own val I)) :
    ∃ i, SS c N (fun s => if s = t then some (.v (Is (val i))) else A s) (I i :: L) φ a w := by
  obtain ⟨β, hβ, hap⟩ := h.own
  obtain ⟨⟨i, h1, h2⟩, h3, h4⟩ := hβ t ι val I ht
  have key : ∀ (s : Tmp) (ι' : Type) (val' : ι' → Value) (I' : ι' → Item), (if s = t then some (Out.v (Is (val i))) else A s) = some (.own val' I') → s ≠ t ∧ A s = some (.own val' I') := fun s ι' val' I' hs => by
    by_cases e : s = t
    · rw [if_pos e] at hs; cases hs
    · rw [if_neg e] at hs; exact ⟨e, hs⟩
  refine ⟨i, h.defers, h.size, fun s B hB => ?_, ⟨⟨h.mem.mem.base, fun it hi => ?_, List.pairwise_cons.2 ⟨fun y hy b hb hyb => ?_, h.mem.mem.sep⟩⟩, h.mem.kept, fun b hb => ?_, h.mem.old⟩, β, fun s ι' val' I' hs => ?_, fun s s' ι' ι'' val' I' val'' I'' hne hs hs' => ?_⟩
  · by_cases e : s = t
    · subst e
      rw [if_pos rfl] at hB
      injection hB with hB
      injection hB with hB
      subst hB
      exact h1
    · rw [if_neg e] at hB; exact h.env s B hB
  · rcases List.mem_cons.1 hi with rfl | hi
    · rw [← h2]; exact h3
    · exact h.mem.mem.items it hi
  · exact (h4 b (by rw [h2]; exact hb)).2 (mem_names.2 ⟨y, hy, hyb⟩)
  · obtain ⟨x, hx, hxb⟩ := mem_names.1 hb
    rcases List.mem_cons.1 hx with rfl | hx
    · exact (h4 b (by rw [h2]; exact hxb)).1
    · exact h.mem.mine b (mem_names.2 ⟨x, hx, hxb⟩)
  · obtain ⟨e, hs⟩ := key s _ _ _ hs
    obtain ⟨g1, g2, g3⟩ := hβ s ι' val' I' hs
    refine ⟨g1, g2, fun b hb => ⟨(g3 b hb).1, fun hn => ?_⟩⟩
    obtain ⟨x, hx, hxb⟩ := mem_names.1 hn
    rcases List.mem_cons.1 hx with rfl | hx
    · exact hap s t _ _ val' I' val I e hs ht b hb (by rw [h2]; exact hxb)
    · exact (g3 b hb).2 (mem_names.2 ⟨x, hx, hxb⟩)
  · obtain ⟨_, hs⟩ := key s _ _ _ hs
    obtain ⟨_, hs'⟩ := key s' _ _ _ hs'
    exact hap s s' _ _ val' I' val'' I'' hne hs hs'
/-- A walk that ends in whatever is asked; of each operation it is told what it takes. -/
def JWG (P : Program) (ops : Array Oper) (c : Ctx) (nd : List Nat) (G : Option Tmp → Prop) (K : EnvO → Prop) (k : Nat) : Nat → List Oper → EnvO → List Item → Prop
  | 0, _, EO, _ => K EO
  | _ + 1, [], _, _ => False
  | n + 1, o :: rest, EO, L => ∃ F kl, G kl ∧ KillOk ops nd k o (lookO EO) kl ∧ LocOp P ops c L o (lookO EO) F kl ∧ JWG P ops c nd G K (k + 1) n rest (putEO (killE EO kl) (tgt o kl) F) L
theorem JWG.out {nd : List Nat} {G : Option Tmp → Prop} {K : EnvO → Prop} : ∀ {n k : Nat} {rest : List Oper} {EO : EnvO}, JWG P ops c nd G K k n rest EO L →
    ∃ m : List Ent, m.length = n ∧ n ≤ rest.length ∧ (∀ i x, m[i]? = some x → x.i = k + i ∧ rest[i]? = some x.o ∧ G x.kl) ∧
      (∀ m1 x m2, m = m1 ++ x :: m2 → LocOp P ops c L x.o (acc (fun _ => true) m1 (lookO EO)) x.F x.kl ∧ KillOk ops nd x.i x.o (acc (fun _ => true) m1 (lookO EO)) x.kl) ∧ ∃ E', lookO E' = acc (fun _ => true) m (lookO EO) ∧ K E'
  | 0, k, rest, EO, h => ⟨[], rfl, Nat.zero_le _, fun i x hx => by simp at hx, fun m1 x m2 hm => by simp at hm, EO, rfl, h⟩
  | n + 1, k, [], EO, h => h.elim
  | n + 1, k, o :: rest, EO, ⟨F, kl, hG, h0, h1, h2⟩ => by
    obtain ⟨m, e1, e0, e2, e3, E', e4, e5⟩ := JWG.out h2
    have hA : lookO (putEO (killE EO kl) (tgt o kl) F) = (⟨k, o, F, kl⟩ : Ent).app (lookO EO) := by rw [lookO_put, lookO_kill]; rfl
    rw [hA] at e3 e4
    refine ⟨⟨k, o, F, kl⟩ :: m, by simp [e1], by simp; omega, fun i x hx => ?_, fun m1 x m2 hm => ?_, E', e4, e5⟩
    · cases i with
      | zero => simp at hx; subst hx; exact ⟨rfl, rfl, hG⟩
      | succ i =>
        obtain ⟨h3, h4, h5⟩ := e2 i x (by simpa using hx)
        exact ⟨by omega, by simpa using h4, h5⟩
    · cases m1 with
      | nil =>
        simp only [List.nil_append, List.cons.injEq] at hm
        obtain ⟨rfl, rfl⟩ := hm
        exact ⟨h1, h0⟩
      | cons y m1 =>
        simp only [List.cons_append, List.cons.injEq] at hm
        obtain ⟨rfl, hm⟩ := hm
        exact e3 m1 x m2 hm
def floatB (ops : Array Oper) (nd : List Nat) (k n d : Nat) (t : Tmp) : Bool :=
  Nat.ble k d && Nat.blt d (k + n) && ((List.range ops.size).all fun j => Nat.blt j (k + n) || (ndOf nd j).testBit d) && opsAll (fun j x => Nat.beq j d || Nat.blt j k || !Nat.blt j (k + n) || !((namesOf ops x).any fun s => Nat.beq s t)) ops.toList 0
/-- The value is named, the walk goes on. -/
def JWX (P : Program) (ops : Array Oper) (Q : Exit → Act → World → Prop) (c : Ctx) (N : Nat) (nd : List Nat) (k n2 : Nat) (rest : List Oper) (t : Tmp) (L : List Item) (EO : EnvO) : Prop :=
  ∃ (ι : Type) (val : ι → Value) (I : ι → Item), lookO EO t = some (.own val I) ∧ ∀ i, JWG P ops c nd (fun _ => True) (fun E' => bareB E' [] = true ∧ opn E' fun E M => JD P ops Q c N nd (k + n2) (rest.drop n2) E (M ++ I i :: L)) k n2 rest ((t, .v (Is (val i))) :: killE EO (some t)) (I i :: L)
theorem acc_not {p : Nat → Bool} {s : Nat} : ∀ {m m' : List Ent} {A : Nat → Option Out}, m.length = m'.length → (∀ (j : Nat) (x x' : Ent), m[j]? = some x → m'[j]? = some x' → x'.i = x.i ∧ ∀ A B : Nat → Option Out, A s = B s → x.app A s = x'.app B s) → ∀ {B : Nat → Option Out}, A s = B s → acc p m A s = acc p m' B s
  | [], [], A, _, _, B, hA => hA
  | [], _ :: _, A, h, _, B, hA => by simp at h
  | _ :: _, [], A, h, _, B, hA => by simp at h
  | x :: m, x' :: m', A, h, hx, B, hA => by
    refine acc_not (m := m) (m' := m') (by simpa using h) (fun j y y' h1 h2 => hx (j + 1) y y' (by simpa using h1) (by simpa using h2)) ?_
    obtain ⟨e1, e2⟩ := hx 0 x x' (by simp) (by simp)
    rw [e1]
    cases p x.i
    · exact hA
    · exact e2 A B hA
theorem acc_at {p : Nat → Bool} {t d : Nat} {F : Out} (hp : p d = true) : ∀ {m : List Ent} {A : Nat → Option Out}, (∀ x, x ∈ m → (x.i = d → ∀ A, x.app A t = some F) ∧ (x.i ≠ d → ¬ x.tch t)) → (A t = some F ∨ ∃ x, x ∈ m ∧ x.i = d) → acc p m A t = some F
  | [], A, _, h => h.elim id fun ⟨x, hx, _⟩ => by cases hx
  | x :: m, A, hm, h => by
    refine acc_at hp (m := m) (fun y hy => hm y (List.mem_cons_of_mem _ hy)) ?_
    by_cases hx : x.i = d
    · refine .inl ?_
      rw [hx, hp]
      exact (hm x (List.mem_cons_self ..)).1 hx A
    · rcases h with h | ⟨y, hy, hyd⟩
      · refine .inl ?_
        cases p x.i
        · exact h
        · exact (Ent.app_ne ((hm x (List.mem_cons_self ..)).2 hx)).trans h
      · rcases List.mem_cons.1 hy with rfl | hy
        · exact absurd hyd hx
        · exact .inr ⟨y, hy, hyd⟩
theorem float_main {Q : Exit → Act → World → Prop} {nd : List Nat} (hg : Good ops nd) (hN : opsAll (fun _ o => dstB N o.dst) ops.toList 0 = true) {k n n2 d : Nat} {t : Tmp} {rest : List Oper} (hk : k + rest.length = ops.size) (hrest : ∀ i, rest[i]? = ops[k + i]?)
    (hF : floatB ops nd k n d t = true) (hS : stretchB nd ops.size k (n + n2) = true) (hd : ((ops[d]?).bind (·.dst)) = some t) {EO : EnvO}
    (h : JWG P ops c nd (fun kl => kl ≠ some t) (JWX P ops Q c N nd (k + n) n2 (rest.drop n) t L) k n rest EO L)
    {φ : Fz} {a : Act} {w : World} {listed : Array Bool} (hp : Pre ops nd k listed) (st : SS c N (lookO EO) L φ a w) : wpAny P .any ops Q (unl ops.size listed) listed a w := by
  obtain ⟨m, e1, e0, e2, e3, E', e4, ι, val, I, e5, e6⟩ := h.out
  simp only [floatB, Bool.and_eq_true] at hF
  obtain ⟨⟨⟨hF1, hF2⟩, hF3⟩, hF4⟩ := hF
  have hkd : k ≤ d := Nat.le_of_ble_eq_true hF1
  have hdn : d < k + n := by simpa using hF2
  have hneed : ∀ j, k + n ≤ j → j < ops.size → (ndOf nd j).testBit d = true := fun j h1 h2 => by
    have h3 := List.all_eq_true.1 hF3 j (List.mem_range.2 h2)
    rw [blt_ff h1, Bool.false_or] at h3; exact h3
  have hnt : ∀ j x, k ≤ j → j < k + n → j ≠ d → ops[j]? = some x → t ∉ namesOf ops x := fun j x h1 h2 h3 h4 h5 => by
    have h6 := opsAll_spec hF4 j x (by simpa using h4)
    simp only [Nat.zero_add] at h6
    have h7 : Nat.blt j (k + n) = true := by simpa using h2
    have h8 : ((namesOf ops x).any fun s => Nat.beq s t) = true := List.any_eq_true.2 ⟨t, h5, by simp⟩
    rw [beq_ff h3, blt_ff h1, h7, h8] at h6
    simp at h6
  have hmi : ∀ i x, m[i]? = some x → x.i = k + i ∧ ops[k + i]? = some x.o := fun i x hx => by
    obtain ⟨h1, h2, _⟩ := e2 i x hx
    exact ⟨h1, by rw [← hrest]; exact h2⟩
  have hto : ∀ x, x ∈ m → x.tch t → x.i = d := fun x hx ht => by
    obtain ⟨i, hi⟩ := List.mem_iff_getElem?.1 hx
    obtain ⟨h1, h2, h3⟩ := e2 i x hi
    have hil : i < m.length := (List.getElem?_eq_some_iff.1 hi).1
    rcases ht with ht | ht
    · rcases Nat.decEq x.i d with h4 | h4
      · exact absurd (List.mem_append_right _ (by rw [ht]; simp)) (hnt x.i x.o (by omega) (by omega) h4 (by rw [h1, ← hrest]; exact h2))
      · exact h4
    · exact absurd ht h3
  have hall : ∀ i, i < k → listed.getD i true = true := fun i hi => (hp.pre i (by omega)).2 hi
  have hnone : ∀ i, k ≤ i → i < ops.size → listed.getD i true = false := fun i hi hi' => by
    cases hv : listed.getD i true with
    | false => rfl
    | true => have := (hp.pre i hi').1 hv; omega
  refine stretchX (Q := Q) hg hN (fun i => Nat.beq i d) (fun _ => false) (fun i j h1 h2 h3 h4 h5 => ?_) (by omega) e1 hmi (fun m1 x m2 hm => ⟨fun _ => (e3 m1 x m2 hm).1, (e3 m1 x m2 hm).2⟩) ?_ _ φ a w listed rfl hp.cl hall (fun i hi hi' => hnone i (by omega) hi') (fun i hi => by cases hi) (st.congr fun s => ?_)
  · rw [Nat.eq_of_beq_eq_true h3]; exact hneed j h4 h5
  · intro φ1 a1 w1 l1 hc1 hlo1 hhi1 hsp1 st1
    have hld : l1.getD d true = true := hsp1 d hkd hdn (by simp)
    have hdsz : d < l1.size := by rw [hc1.size]; omega
    have hld' : l1.getD d false = true := by simp [hdsz] at hld ⊢; exact hld
    have hAt : acc (fun i => l1.getD i false) m (lookO EO) t = some (.own val I) := by
      rw [← e5, e4]
      exact acc_congr rfl fun x hx ht => by rw [hto x hx ht]; exact hld'
    obtain ⟨i, st2⟩ := st1.openT hAt
    obtain ⟨m2, f1, f0, f2, f3, E2, f4, f5, f6⟩ := (e6 i).out
    -- the entries, the one that made told by its value
    let tell : Ent → Ent := fun x => if x.i = d then ⟨x.i, x.o, .v (Is (val i)), x.kl⟩ else x
    let mm := m.map tell
    have hmm1 : mm.length = n := by simp [mm, e1]
    have hmm : ∀ (j : Nat) (y : Ent), mm[j]? = some y → ∃ x, m[j]? = some x ∧ y = tell x := fun j y hy => by
      simp only [mm, List.getElem?_map, Option.map_eq_some_iff] at hy
      obtain ⟨x, h1, h2⟩ := hy
      exact ⟨x, h1, h2.symm⟩
    have htl : ∀ x : Ent, x.i ≠ d → tell x = x := fun x hx => if_neg hx
    have htd : ∀ x : Ent, x.i = d → tell x = ⟨x.i, x.o, .v (Is (val i)), x.kl⟩ := fun x hx => if_pos hx
    have htio : ∀ x : Ent, (tell x).i = x.i ∧ (tell x).o = x.o := fun x => by
      by_cases hx : x.i = d
      · rw [htd x hx]; exact ⟨rfl, rfl⟩
      · rw [htl x hx]; exact ⟨rfl, rfl⟩
    have hxd : ∀ x, x ∈ m → x.i = d → x.o.dst = some t := fun x hx hi => by
      obtain ⟨j, hj⟩ := List.mem_iff_getElem?.1 hx
      obtain ⟨h1, h2⟩ := hmi j x hj
      rw [← h1, hi] at h2
      rw [h2] at hd; exact hd
    have htk : ∀ x : Ent, (tell x).kl = x.kl := fun x => by
      by_cases hx : x.i = d
      · rw [htd x hx]
      · rw [htl x hx]
    have hkt : ∀ x, x ∈ m → x.kl ≠ some t := fun x hx => by
      obtain ⟨j, hj⟩ := List.mem_iff_getElem?.1 hx
      exact (e2 j x hj).2.2
    have happ : ∀ x, x ∈ m → ∀ s, s ≠ t → ∀ A B : Nat → Option Out, A s = B s → x.app A s = (tell x).app B s := fun x hx s hs A B hAB => by
      by_cases hi : x.i = d
      · rw [htd x hi]
        unfold Ent.app
        dsimp only
        have h1 := tgt_some (hxd x hx hi) x.kl
        rw [h1, putO_ne (fun e => hs (Option.some.inj e).symm), putO_ne (fun e => hs (Option.some.inj e).symm)]
        unfold killO
        split
        · rfl
        · exact hAB
      · rw [htl x hi]
        by_cases ht : x.tch s
        · exact Ent.app_same (.inl ht)
        · exact Ent.app_same (.inr hAB)
    -- away from t nothing is changed
    have haway : ∀ (p : Nat → Bool) (q : Nat) (s : Tmp), s ≠ t → acc p (m.take q) (lookO EO) s = acc p (mm.take q) (lookO EO) s := fun p q s hs => by
      refine acc_not (by simp [mm]) (fun j x x' h1 h2 => ?_) rfl
      rw [List.getElem?_take] at h1 h2
      split at h1
      · rename_i hjq
        rw [if_pos hjq] at h2
        obtain ⟨y, h3, h4⟩ := hmm j x' h2
        rw [h1] at h3
        injection h3 with h3
        subst h3
        rw [h4]
        exact ⟨(htio x).1, happ x (List.mem_of_getElem? h1) s hs⟩
      · cases h1
    have hawayA : ∀ (p : Nat → Bool) (s : Tmp), s ≠ t → acc p m (lookO EO) s = acc p mm (lookO EO) s := fun p s hs => by
      have := haway p n s hs
      rwa [List.take_of_length_le (by omega), List.take_of_length_le (by omega)] at this
    have hat : ∀ p : Nat → Bool, p d = true → acc p mm (lookO EO) t = some (.v (Is (val i))) := fun p hpd => by
      refine acc_at hpd (fun x hx => ?_) (.inr ?_)
      · obtain ⟨j, hj⟩ := List.mem_iff_getElem?.1 hx
        obtain ⟨y, h1, rfl⟩ := hmm j x hj
        have hy := List.mem_of_getElem? h1
        refine ⟨fun hi A => ?_, fun hi ht => ?_⟩
        · rw [(htio y).1] at hi
          rw [htd y hi]
          unfold Ent.app
          dsimp only
          rw [tgt_some (hxd y hy hi), putO_eq]
        · rw [(htio y).1] at hi
          rw [htl y hi] at ht
          exact hi (hto y hy ht)
      · obtain ⟨x, hx⟩ : ∃ x, m[d - k]? = some x := ⟨m[d - k], by rw [List.getElem?_eq_getElem]⟩
        refine ⟨tell x, List.mem_map.2 ⟨x, List.mem_of_getElem? hx, rfl⟩, ?_⟩
        rw [(htio x).1, (hmi _ x hx).1]; omega
    have hAll : acc (fun _ => true) mm (lookO EO) = lookO ((t, .v (Is (val i))) :: killE E' (some t)) := by
      funext s
      by_cases hs : s = t
      · subst hs
        rw [hat _ rfl]
        simp [lookO]
      · rw [← hawayA _ s hs, ← e4]
        simp only [lookO, beq_ff (Ne.symm hs), cond_false]
        rw [lookO_kill, killO_ne (fun e => hs (Option.some.inj e).symm)]
    have hmmi : ∀ (j : Nat) (x : Ent), (mm ++ m2)[j]? = some x → x.i = k + j ∧ ops[k + j]? = some x.o := fun j x hx => by
      rcases Nat.lt_or_ge j n with hj | hj
      · rw [List.getElem?_append_left (by omega)] at hx
        obtain ⟨y, h1, rfl⟩ := hmm j x hx
        rw [(htio y).1, (htio y).2]; exact hmi j y h1
      · rw [List.getElem?_append_right (by omega), hmm1] at hx
        obtain ⟨h1, h2, _⟩ := f2 _ x hx
        rw [List.getElem?_drop, hrest] at h2
        refine ⟨by omega, ?_⟩
        rw [← h2]; congr 1; omega
    refine stretchX (Q := Q) (L := I i :: L) (n := n + n2) hg hN (fun _ => true) (fun j => Nat.beq j d) (fun i j h1 h2 _ h4 h5 => ?_) (by rw [List.length_drop] at f0; omega) (m := mm ++ m2) (A0 := lookO EO) (by simp [hmm1, f1]) hmmi (fun a x b hab => ?_) ?_ _ φ1 a1 w1 l1 rfl hc1 hlo1 (fun j hj hj' => hhi1 j (by omega) hj') (fun j hj => by rw [Nat.eq_of_beq_eq_true hj]; exact hld) (st2.congr fun s => ?_)
    · have h6 := List.all_eq_true.1 hS (i - k) (List.mem_range.2 (by omega))
      have h7 := List.all_eq_true.1 h6 j (List.mem_range.2 h5)
      rw [blt_ff h4, Bool.false_or, show k + (i - k) = i by omega] at h7; exact h7
    · have hq : (mm ++ m2)[a.length]? = some x := by rw [hab, List.getElem?_append_right (Nat.le_refl _)]; simp
      have ha : a = (mm ++ m2).take a.length := by rw [hab]; simp
      rcases Nat.lt_or_ge a.length n with hj | hj
      · rw [List.getElem?_append_left (by omega)] at hq
        rw [List.take_append_of_le_length (by omega)] at ha
        obtain ⟨y, h1, rfl⟩ := hmm _ x hq
        have hy := List.mem_of_getElem? h1
        have hyl : a.length < m.length := (List.getElem?_eq_some_iff.1 h1).1
        have hsp : m = m.take a.length ++ y :: m.drop (a.length + 1) := by
          have h2 : m.drop a.length = y :: m.drop (a.length + 1) := by
            rw [List.drop_eq_getElem_cons hyl]
            congr 1
            rw [List.getElem?_eq_getElem hyl] at h1
            exact Option.some.inj h1
          rw [← h2, List.take_append_drop]
        obtain ⟨g1, g2⟩ := e3 _ y _ hsp
        rw [ha]
        refine ⟨fun hdd => ?_, fun s hs => ?_⟩
        · have hne : y.i ≠ d := fun e => by rw [(htio y).1, e] at hdd; simp at hdd
          rw [htl y hne]
          refine g1.more.congr fun s hs => (haway _ _ s ?_).symm
          rintro rfl
          rcases hs with hs | hs
          · obtain ⟨h2, h3⟩ := hmi _ y h1
            exact hnt y.i y.o (by omega) (by omega) hne (by rw [h2]; exact h3) (List.mem_append_left _ hs)
          · exact hkt y hy hs
        · rw [htk y] at hs
          have hst : s ≠ t := fun e => hkt y hy (by rw [hs, e])
          obtain ⟨⟨g3, ι', val', I', g4⟩, g5⟩ := g2 s hs
          rw [(htio y).1, (htio y).2]
          exact ⟨⟨g3, ι', val', I', by rw [← haway _ _ s hst]; exact g4⟩, g5⟩
      · rw [List.getElem?_append_right (by omega), hmm1] at hq
        have hyl : a.length - n < m2.length := (List.getElem?_eq_some_iff.1 hq).1
        have hsp : m2 = m2.take (a.length - n) ++ x :: m2.drop (a.length - n + 1) := by
          have h2 : m2.drop (a.length - n) = x :: m2.drop (a.length - n + 1) := by
            rw [List.drop_eq_getElem_cons hyl]
            congr 1
            rw [List.getElem?_eq_getElem hyl] at hq
            exact Option.some.inj hq
          rw [← h2, List.take_append_drop]
        have h3 := f3 _ x _ hsp
        rw [List.take_append, List.take_of_length_le (by omega), hmm1] at ha
        rw [ha, acc_append, hAll]
        exact ⟨fun _ => h3.1, h3.2⟩
    · intro φ2 a2 w2 l2 hc2 hlo2 hhi2 hsp2 st3
      have hl2 : ∀ j, k ≤ j → j < k + (n + n2) → l2.getD j false = true := fun j h1 h2 => by
        have h3 := hsp2 j h1 h2 rfl
        have h4 : j < l2.size := by rw [hc2.size]; rw [List.length_drop] at f0; omega
        simp [h4] at h3 ⊢; exact h3
      have st4 := st3.congr (B := lookO E2) fun s => by
        rw [f4, ← hAll, ← acc_append]
        refine acc_congr rfl fun x hx _ => ?_
        obtain ⟨j, hj⟩ := List.mem_iff_getElem?.1 hx
        have hjl : j < (mm ++ m2).length := (List.getElem?_eq_some_iff.1 hj).1
        rw [List.length_append, hmm1, f1] at hjl
        rw [(hmmi j x hj).1]
        exact hl2 _ (by omega) (by omega)
      obtain ⟨E3, M, g1, g2⟩ := st4.open_ f5 f6
      rw [List.length_drop] at f0
      refine g1 hg hN (by rw [List.length_drop, List.length_drop]; omega) (fun j => ?_) φ2 a2 w2 l2 ⟨hc2, fun j hj => ⟨fun h => ?_, fun h => ?_⟩⟩ g2
      · rw [List.getElem?_drop, List.getElem?_drop, hrest]; congr 1; omega
      · rcases Nat.lt_or_ge j (k + n + n2) with h' | h'
        · exact h'
        · have := hhi2 j (by omega) hj; rw [h] at this; cases this
      · rcases Nat.lt_or_ge j k with h' | h'
        · exact hlo2 j h'
        · exact hsp2 j h' (by omega) rfl
    · rw [acc_append]
      have h1 : acc (fun i => l1.getD i false) m2 (acc (fun i => l1.getD i false) mm (lookO EO)) s = acc (fun i => l1.getD i false) mm (lookO EO) s := by
        refine acc_skip fun x hx _ => ?_
        obtain ⟨j, hj⟩ := List.mem_iff_getElem?.1 hx
        obtain ⟨h1, h2, _⟩ := f2 j x hj
        have hjl : j < m2.length := (List.getElem?_eq_some_iff.1 hj).1
        rw [h1]
        rw [List.length_drop] at f0
        exact getD_tf (hhi1 _ (by omega) (by omega))
      rw [h1]
      by_cases hs : s = t
      · subst hs
        rw [if_pos rfl, hat _ hld']
      · rw [if_neg hs]; exact hawayA _ s hs
  · refine (acc_skip fun x hx _ => ?_).symm
    obtain ⟨i, hi⟩ := List.mem_iff_getElem?.1 hx
    have hil : i < m.length := (List.getElem?_eq_some_iff.1 hi).1
    obtain ⟨h1, _⟩ := hmi i x hi
    rw [h1]
    exact getD_tf (hnone _ (by omega) (by omega))
theorem JD_float {its : List Item} {Q : Exit → Act → World → Prop} {nd : List Nat} {k : Nat} (n n2 d t : Nat) {rest : List Oper} {E : Env} (hF : floatB ops nd k n d t = true) (hS : stretchB nd ops.size k (n + n2) = true) (hd : ((ops[d]?).bind (·.dst)) = some t)
    (h : JWG P ops c nd (fun kl => kl ≠ some t) (JWX P ops Q c N nd (k + n) n2 (rest.drop n) t L) k n rest (ghosts N its ++ liftE E) L) : JD P ops Q c N nd k rest E (its ++ L) := fun hg hN hk hrest φ a w listed hp st =>
  float_main hg hN hk hrest hF hS hd h hp (SS.startG st)
theorem gT {p : Prop} (h : p := by first | exact trivial | exact nofun | (intro h; injection h with h; exact absurd h (by decide))) : p := h
section
variable {nd : List Nat} {G : Option Tmp → Prop} {K : EnvO → Prop} {k n : Nat} {rest : List Oper} {EO : EnvO} {t : Tmp} {op : Op} {ty : TypeId} {pos : String} {af : Array Edge}
theorem JG_1 {F : VP} (hG : G none) (hs : OpP P c ⟨some t, op, ty, pos, af, none⟩ (vals EO) L F) (h : JWG P ops c nd G K (k + 1) n rest ((t, .v F) :: EO) L) : JWG P ops c nd G K k (n + 1) (⟨some t, op, ty, pos, af, none⟩ :: rest) EO L :=
  ⟨.v F, none, hG, killOk_none, fun φ a w K Q M hm ht hl hk => by
    rw [if_pos (by simp [Region.wanted])]
    obtain rfl : M = [] := ht
    exact hs φ a w K Q hm (evs hm.mem.facts hl) fun φ' v w' hp hf => hk φ' v w' (by rw [res_none]; exact ⟨hp, hf⟩), h⟩
theorem JG_n {ι : Type} {val : ι → Value} {I : ι → Item} (hG : G none) (hs : OpN P c ⟨some t, op, ty, pos, af, none⟩ (vals EO) L val I) (h : JWG P ops c nd G K (k + 1) n rest ((t, .own val I) :: EO) L) : JWG P ops c nd G K k (n + 1) (⟨some t, op, ty, pos, af, none⟩ :: rest) EO L :=
  ⟨.own val I, none, hG, killOk_none, fun φ a w K Q M hm ht hl hk => by
    rw [if_pos (by simp [Region.wanted])]
    obtain rfl : M = [] := ht
    exact hs φ a w K Q hm (evs hm.mem.facts hl) fun i φ' w' hp => hk φ' _ w' ⟨i, res_none _ _ _, hp⟩, h⟩
theorem JG_g {s : Tmp} {it it' : Item} {F : Unit → VP} (hG : G (some s)) (hl : lookO EO s = some (.own (fun _ : Unit => undef) (fun _ => it))) (hB : (killB ops nd k s && storeB ops nd k ⟨none, op, ty, pos, af, none⟩ s) = true)
    (hs : ∀ c' : Ctx, OpS P c' ⟨none, op, ty, pos, af, none⟩ (vals EO) [it] F (fun _ => [it'])) (h : JWG P ops c nd G K (k + 1) n rest ((s, .own (fun _ : Unit => undef) (fun _ => it')) :: killE EO (some s)) L) : JWG P ops c nd G K k (n + 1) (⟨none, op, ty, pos, af, none⟩ :: rest) EO L := by
  simp only [Bool.and_eq_true] at hB
  refine ⟨.own (fun _ : Unit => undef) (fun _ => it'), some s, hG, fun s' hs' => ?_, fun φ a w K Q M hm ht hlk hk => ?_, h⟩
  · injection hs' with hs'
    subst hs'
    exact ⟨⟨.inr rfl, _, _, _, hl⟩, fun j x h1 h2 h3 => h2.elim (fun h2 => killB_spec hB.1 j x h1 h2 h3) (fun h2 => storeB_spec hB.2 h2.1 j x h1 h2.2.2 h3)⟩
  · rw [if_pos (by simp [Region.wanted])]
    obtain ⟨_, κ', val0, I0, i, h1, h2, rfl⟩ := ht
    rw [hl] at h1
    injection h1 with h1
    cases h1
    have he := evs (fun it hi => hm.mem.facts it (List.mem_cons_of_mem _ hi)) hlk
    have hm1 : HP ⟨w, φ, names [it], []⟩ φ [it] w := HP.start ⟨hm.mem.base, fun x hx => by rw [List.mem_singleton] at hx; subst hx; exact hm.mem.items _ (List.mem_cons_self ..), List.pairwise_singleton _ _⟩
    refine hs ⟨w, φ, names [it], []⟩ φ a w K Q hm1 (fun x hx B hB => ?_) fun _ φ' v w' _ _ hm' => hk φ' v w' ⟨(), by rw [res_kl rfl]; exact h2, hm'⟩
    obtain ⟨D, h1, h2⟩ := hB
    exact h2 _ _ hm1.mem.facts (he x hx D (.rfl' h1))
end
end
end Go.Proofs.YtfglhiciagmicaaGreat

/- Rules: make of a row of elements of several cells. Own work. -/
namespace Go.Proofs.YtfglhiciagmicaaGreat
open Go.RowKit
set_option linter.unusedVariables false
set_option linter.unusedSimpArgs false
theorem made_listN (vs : List Value) (hk : 0 < vs.length) : ∀ n : Nat, (madeCells vs.toArray (n * vs.length)).toList = (List.replicate n vs).flatten
  | 0 => by simp [madeCells]
  | n + 1 => by
    have ih := made_listN vs hk n
    simp only [madeCells, Array.toList_map, Array.toList_range] at ih ⊢
    rw [show (n + 1) * vs.length = vs.length + n * vs.length by rw [Nat.add_mul, Nat.one_mul, Nat.add_comm], List.range_add, List.map_append, List.replicate_succ, List.flatten_cons, ← ih]
    congr 1
    · apply List.ext_getElem
      · simp
      · intro i h1 h2
        simp at h1
        simp [Nat.mod_eq_of_lt h1, h1]
    · rw [List.map_map]
      refine List.map_congr_left fun i hi => ?_
      simp [Function.comp]
theorem alls_repN {φ : Fz} {Bs : List VP} {vs : List Value} (h : Alls φ Bs vs) : ∀ n, Alls φ (List.replicate n Bs).flatten (List.replicate n vs).flatten
  | 0 => trivial
  | n + 1 => by rw [List.replicate_succ, List.replicate_succ, List.flatten_cons, List.flatten_cons]; exact h.append (alls_repN h n)
section
variable {P : Program} {c : Ctx} {A : Nat → Option VP} {L : List Item} {d : Option Tmp} {ty : TypeId} {pos : String} {af : Array Edge} {g : Option (Nat × Bool)} {x y : Operand} {t e : TypeId} {α : Type}
theorem op_makeRowN (T : Ty α) (z0 : α) (vs : List Value) {z : Value} {bytes n sz : Nat} {k k' : IntKind} (hx : Ev A L x (Is (.int k (n : Int)))) (hy : Ev A L y (Is (.int k' (n : Int)))) (hT : ∀ φ, Alls φ (T.cells z0) vs) (hu : P.underlying t = some (.slice e))
    (hinfo : (P.info? e).map (fun i => (i.zero, i.size, i.bytes)) = some (some z, sz, bytes)) (hs : T.size = sz) (hz1 : z.cells = vs.toArray) (ho : (vs.all Value.oneCell') = true) (hb : Nat.ble bytes 100000 = true) (hn : n ≤ 1048576) (hp : 0 < sz) :
    OpN P c ⟨d, .makeSlice t x y, ty, pos, af, g⟩ A L (fun b : Nat => slV n (some ⟨b, 0, none⟩, n)) (fun b => buf (slV n (some ⟨b, 0, none⟩, n)) e T (List.replicate n z0)) := by
  intro φ a w K Q hm he hk
  have h1 : a.eval x = .int k (n : Int) := he x (by simp [Op.operands]) _ hx
  have h2 : a.eval y = .int k' (n : Int) := he y (by simp [Op.operands]) _ hy
  have hb' := Nat.le_of_ble_eq_true hb
  have hby := Nat.mul_le_mul hb' hn
  have hvl : vs.length = T.size := by rw [← (hT φ).len]; exact T.len z0
  obtain ⟨i, hi, hzz⟩ := Option.map_eq_some_iff.1 hinfo
  simp only [Prod.mk.injEq] at hzz
  obtain ⟨hz, hsi, hbi⟩ := hzz
  have hb'' : (i.bytes : Int) * (n : Int) ≤ 281474976710656 := by
    have h : ((i.bytes * n : Nat) : Int) ≤ 281474976710656 := by rw [hbi]; omega
    rwa [Int.natCast_mul] at h
  have hr := run_make (P := P) w t e i z hu hi hz k k' n n (by omega) (Int.le_refl _) hb'' (by omega)
  simp only [Int.toNat_natCast, hsi, hz1] at hr
  have hrun : (execOp a.eval ⟨d, .makeSlice t x y, ty, pos, af, g⟩).run P w = .ok (.value (.slice (some ⟨w.heap.size, 0, none⟩) n n)) (w.alloc (.cells (madeCells vs.toArray (n * sz)) e)) := by
    simp only [execOp, h1, h2]
    exact run_val hr
  unfold Oper.wp
  rw [hrun]
  have hflat : (List.replicate n z0).flatMap T.cells = (List.replicate n (T.cells z0)).flatten := by rw [List.flatMap_def, List.map_replicate]
  have hml := made_listN vs (by omega) n
  rw [hvl, hs] at hml
  refine hk w.heap.size φ _ (hp_new (b := 0) hm rfl ⟨(List.replicate n vs).flatten, by simp [hvl], by rw [hflat]; exact alls_repN (hT φ) n, fun u hu => ?_, .inr ⟨w.heap.size, n, madeCells vs.toArray (n * sz), by simp [slV], rfl, by simp, by unfold maxLen; omega, by simp [madeCells, hs], ?_⟩⟩)
  · obtain ⟨l, h3, h4⟩ := List.mem_flatten.1 hu
    rw [(List.mem_replicate.1 h3).2] at h4
    exact List.all_eq_true.1 ho u h4
  · rw [hml]
    refine List.take_of_length_le ?_
    rw [List.length_flatten, List.map_replicate, List.sum_replicate_nat, List.length_replicate, hvl]
    exact Nat.le_refl _
/-- Of an address it is known that it is one. -/
theorem op_nilSome {i : Option Addr × Nat} {o gg cap : Nat} (hi : i = (some ⟨gg, 0, none⟩, cap)) (hx : Ev A L x (Is (bpt i o))) : OpP P c ⟨d, .nilCheck x, ty, pos, af, g⟩ A L (Is (bpt i o)) := by
  subst hi; exact op_nilCheck hx
theorem op_fieldSome {i : Option Addr × Nat} {o gg cap : Nat} {s : TypeId} {f0 m k : Nat} {fs : Array Field} {f : Field} (hi : i = (some ⟨gg, 0, none⟩, cap)) (hx : Ev A L x (Is (bpt i o))) (hu : P.underlying s = some (.struct fs)) (hf : fs[f0]? = some f) (hn : (P.info? f.type).map (·.size) = some (m + 1)) (hk : f.offset = k) :
    OpP P c ⟨d, .fieldAddr s x f0, ty, pos, af, g⟩ A L (Is (bpt i (o + k))) := by
  subst hi; exact op_fieldPtr hx hu hf hn hk
end
end Go.Proofs.YtfglhiciagmicaaGreat

/- Contracts: a batch is posted on a fabric. Own work. -/
namespace Go.Proofs.YtfglhiciagmicaaGreat
open Go.RowKit
set_option linter.unusedVariables false
set_option linter.unusedSimpArgs false
set_option maxRecDepth 100000
/-- The queues behind i verbs. -/
structure PInv (n i : Nat) (prs : List Pr) : Prop where
  len : prs.length = n
  cl : ∀ (j : Nat) (pr : Pr), prs[j]? = some pr → pr.client = 0 ∧ pr.node = (j : Int) ∧ pr.q.length ≤ i
  inq : ∀ (j : Nat) (pr : Pr) (x : Pd), prs[j]? = some pr → x ∈ pr.q → InQ x ∧ 0 ≤ x.slot ∧ x.slot < (i : Int)
  all : ∀ s : Nat, s < i → ∃ (j : Nat) (pr : Pr) (x : Pd), prs[j]? = some pr ∧ x ∈ pr.q ∧ x.slot = (s : Int)
theorem PInv.start {n : Nat} : PInv n 0 (pairsV 1 n) := by
  have hp : ∀ (j : Nat) (pr : Pr), (pairsV 1 n)[j]? = some pr → pr = ⟨0, 1, (j : Int), []⟩ := fun j pr h => by
    unfold pairsV at h
    rw [List.getElem?_map] at h
    obtain ⟨k, h1, h2⟩ := Option.map_eq_some_iff.1 h
    have h3 := List.getElem?_eq_some_iff.1 h1
    obtain ⟨h4, h5⟩ := h3
    rw [List.getElem_range] at h5
    subst h5
    exact h2.symm
  refine ⟨by simp [pairsV], fun j pr h => ?_, fun j pr x h hx => ?_, fun s hs => absurd hs (by omega)⟩
  · rw [hp j pr h]; exact ⟨rfl, rfl, Nat.le_refl _⟩
  · rw [hp j pr h] at hx; cases hx
theorem PInv.step {n i k : Nat} {prs : List Pr} {pr : Pr} {v : GVerb} (h : PInv n i prs) (hz : prs[k]? = some pr) (hv : GoodV v 5 98) (hw : v.words.length ≤ 1024) : PInv n (i + 1) (prs.set k (pr.withQ (pr.q ++ [⟨v, 0, [], (i : Int)⟩]))) := by
  have hk := (List.getElem?_eq_some_iff.1 hz).1
  have key : ∀ (j : Nat) (p : Pr), (prs.set k (pr.withQ (pr.q ++ [⟨v, 0, [], (i : Int)⟩])))[j]? = some p → (j = k ∧ p = pr.withQ (pr.q ++ [⟨v, 0, [], (i : Int)⟩])) ∨ (j ≠ k ∧ prs[j]? = some p) := fun j p hj => by
    rw [List.getElem?_set] at hj
    split at hj
    · rename_i e
      (try rw [if_pos hk] at hj)
      injection hj with hj
      exact .inl ⟨e.symm, hj.symm⟩
    · rename_i e
      exact .inr ⟨fun e' => e e'.symm, hj⟩
  have hnew : InQ (⟨v, 0, [], (i : Int)⟩ : Pd) := ⟨hv, Int.le_refl _, by have := pcs_pos (f := 1024) (at_ := v.at_) (left := cntV v) (by omega) (by have := hv.cnt; omega); unfold piecesV; dsimp only; omega, hw, by simp⟩
  refine ⟨by simp [h.len], fun j p hj => ?_, fun j p x hj hx => ?_, fun s hs => ?_⟩
  · rcases key j p hj with ⟨e, rfl⟩ | ⟨e, hj⟩
    · subst e
      obtain ⟨h1, h2, h3⟩ := h.cl j pr hz
      exact ⟨h1, h2, by simp [Pr.withQ]; exact h3⟩
    · obtain ⟨h1, h2, h3⟩ := h.cl j p hj
      exact ⟨h1, h2, by omega⟩
  · rcases key j p hj with ⟨e, rfl⟩ | ⟨e, hj⟩
    · subst e
      have hx' : x ∈ pr.q ++ [⟨v, 0, [], (i : Int)⟩] := hx
      rcases List.mem_append.1 hx' with hx' | hx'
      · obtain ⟨h1, h2, h3⟩ := h.inq j pr x hz hx'
        exact ⟨h1, h2, by omega⟩
      · rw [List.mem_singleton] at hx'
        subst hx'
        exact ⟨hnew, by dsimp only; omega, by dsimp only; omega⟩
    · obtain ⟨h1, h2, h3⟩ := h.inq j p x hj hx
      exact ⟨h1, h2, by omega⟩
  · by_cases hsi : s = i
    · subst hsi
      exact ⟨k, _, ⟨v, 0, [], (s : Int)⟩, by rw [List.getElem?_set_self hk], by simp [Pr.withQ], rfl⟩
    · obtain ⟨j, p, x, h1, h2, h3⟩ := h.all s (by omega)
      by_cases hj : j = k
      · subst hj
        rw [hz] at h1
        injection h1 with h1
        subst h1
        exact ⟨j, _, x, by rw [List.getElem?_set_self hk], by show x ∈ pr.q ++ _; exact List.mem_append_left _ h2, h3⟩
      · exact ⟨j, p, x, by rw [List.getElem?_set_ne (Ne.symm hj)]; exact h1, h2, h3⟩
theorem lessM {M L : List Item} (h : SubP M L := by repeat (first | exact SubP.refl' _ | exact SubP.nil _ | refine SubP.cons (by repeat (first | exact Drop1.here _ _ | apply Drop1.next)) ?_ | apply SubP.skip)) : SubP M L := h
structure PoZ where
  code : Int
  da : WA
  ha : WA
  prs : List Pr
def dn0 : Dn := ⟨0, []⟩
/-- The fabric of the laws while a batch of m verbs is under way. -/
@[reducible] def fabB (f n m : Nat) (nb cb lb pb da ha : WA) (nds : List FN) (prs : List Pr) (ds : List Dn) (hs : List Bool) : List Item :=
  buf (slV m da) 110 tDn ds :: buf (slV m ha) 4 tBl hs :: fabL f n nb cb lb pb nds (cnOn m da ha 1 m) prs
-- (*bodegaref6.Fabric).Post: function 75
set_option maxHeartbeats 4000000 in
theorem Post_ok (f n : Nat) (hn1 : 1 ≤ n) (hn : n ≤ 5) (nb cb lb pb : WA) (nds : List FN) (hl : nds.length = n) (l : List GVerb) (hlw : ∀ v, v ∈ l → v.words.length ≤ 1024) :
    Fn Tryz.prog 75 [Is (.pointer (some ⟨f, 0, none⟩)), Is (.int .i64 0), IsSl tGVerb l] (fabL f n nb cb lb pb nds cn0 (pairsV 1 n))
    (fun z : {z : PoZ // z.code = 0 → PInv n l.length z.prs ∧ 1 ≤ l.length ∧ l.length ≤ 1024} => Is (.int .i64 z.1.code))
    (fun z => if z.1.code = 0 then fabB f n l.length nb cb lb pb z.1.da z.1.ha nds z.1.prs (List.replicate l.length dn0) (List.replicate l.length false) else []) := by
  have hz0 : [cn0][0]? = some cn0 := rfl
  have hzl : [slV n pb][0]? = some (slV n pb) := rfl
  refine Fn.enterN Tryz.func75 Tryz.ntmps75 rfl rfl ?_
  intro c hX
  refine JC_seq ?_
  refine JC_region ?_
  refine JL_1 rfl (op_assign rfl) ?_
  refine JL_nil ?_
  refine JQ_then (JC_seq (JC_block (JC_seq ?_)))
  refine JC_region ?_
  refine JL_1 rfl (op_move rfl) ?_
  refine JL_1 rfl (op_move rfl) ?_
  (refine JL_s rfl (op_callM (Drops.cons drop1A (Drops.cons drop1A (Drops.nil _))) Tryz.call90 (alive_ok f n nb cb lb cn0) ⟨evS, ⟨evS, trivial⟩⟩) ?_; intro i14)
  refine JL_1 rfl (op_not (Ev.rfl' rfl)) ?_
  refine JL_1 rfl (op_assign rfl) ?_
  refine JL_nil ?_
  refine JQ_then ?_
  refine JC_cond (Ev.rfl' rfl) (fun h1 => ?_) (fun h1 => ?_)
  · exact absurd h1 (by simp [cn0])
  refine JC_seq ?_
  refine JC_region ?_
  refine JL_1 rfl (op_move rfl) ?_
  refine JL_1 rfl (by exact op_nilCheck (Ev.rfl' rfl)) ?_
  refine JL_1 rfl (by exact op_fieldPtr (k := 2) (Ev.rfl' rfl) rfl rfl rfl rfl) ?_
  refine JL_1 rfl (by exact op_loadPtr (Ev.rfl' rfl) memT (by rfl) (by rfl) (by rfl)) ?_
  refine JL_1 rfl (op_move rfl) ?_
  refine JL_1 rfl (by exact op_indexBuf (k := 0) (Ev.rfl' rfl) memT (Ev.rfl' rfl) rfl rfl idxT lenT) ?_
  refine JL_1 rfl (by exact op_fieldBuf (k := 2) (Ev.rfl' rfl) memT lenT rfl rfl rfl rfl) ?_
  refine JL_1 rfl (by exact op_loadBuf (Ev.rfl' rfl) memT hz0 rfl rfl (by rfl)) ?_
  refine JL_1 rfl (op_assign rfl) ?_
  refine JL_nil ?_
  refine JQ_then ?_
  refine JC_cond (Ev.rfl' rfl) (fun h3 => ?_) (fun h3 => ?_)
  · exact absurd h3 (by simp [cn0])
  refine JC_seq ?_
  refine JC_region ?_
  refine JL_1 rfl (op_move rfl) ?_
  refine JL_1 rfl (by exact op_len (Ev.rfl' rfl) rfl) ?_
  refine JL_1 rfl (op_eql (Ev.rfl' rfl) (Ev.rfl' rfl)) ?_
  refine JL_1 rfl (op_assign rfl) ?_
  refine JL_nil ?_
  refine JQ_then ?_
  refine JC_cond (Ev.rfl' rfl) (fun h5 => ?_) (fun h5 => ?_)
  · refine JC_seq ?_
    refine JC_region ?_
    refine JL_1 rfl (op_assign rfl) ?_
    refine JL_nil ?_
    refine JQ_then (JC_ret (JQ_block_ret (JQ_then_ret ?_)))
    exact JQ_retP (Bs := [Is (.int .i64 1)]) Tryz.results75 ⟨⟨_, rfl, subT⟩, trivial⟩ ⟨⟨1, (none, 0), (none, 0), []⟩, fun h => absurd h (by decide)⟩ SubL.rfl' (by rw [if_neg (by dsimp only; decide)]; exact SubP.nil _)
  have hl0 : 1 ≤ l.length := by simp at h5; rcases l with _ | _ <;> simp at h5 ⊢
  clear h5
  refine JC_seq ?_
  refine JC_region ?_
  refine JL_1 rfl (op_move rfl) ?_
  refine JL_1 rfl (by exact op_len (Ev.rfl' rfl) rfl) ?_
  refine JL_1 rfl (op_gtr (Ev.rfl' rfl) (Ev.rfl' rfl)) ?_
  refine JL_1 rfl (op_assign rfl) ?_
  refine JL_nil ?_
  refine JQ_then ?_
  refine JC_cond (Ev.rfl' rfl) (fun h7 => ?_) (fun h7 => ?_)
  · refine JC_seq ?_
    refine JC_region ?_
    refine JL_1 rfl (op_assign rfl) ?_
    refine JL_nil ?_
    refine JQ_then (JC_ret (JQ_block_ret (JQ_then_ret ?_)))
    exact JQ_retP (Bs := [Is (.int .i64 18)]) Tryz.results75 ⟨⟨_, rfl, subT⟩, trivial⟩ ⟨⟨18, (none, 0), (none, 0), []⟩, fun h => absurd h (by decide)⟩ SubL.rfl' (by rw [if_neg (by dsimp only; decide)]; exact SubP.nil _)
  have hl1 : l.length ≤ 1024 := by simp at h7; omega
  clear h7
  refine JC_skip (JQ_block (JQ_then (JC_seq (JC_seq ?_))))
  refine JC_region ?_
  refine JL_1 rfl (op_assign rfl) ?_
  refine JL_nil ?_
  refine JQ_then (JC_block ?_)
  refine JC_loopP (fun i : Nat => i ≤ l.length ∧ ∀ v, v ∈ l.take i → GoodV v n 98) (fun i => [(0, Is (.pointer (some ⟨f, 0, none⟩))), (1, Is (.int .i64 0)), (2, IsSl tGVerb l), (7, Is (.int .i64 (i : Nat)))]) (fun _ => fabL f n nb cb lb pb nds cn0 (pairsV 1 n)) (fun i => l.length - i) 0 ⟨Nat.zero_le _, fun v hv => by simp at hv⟩ esubT lessM ?_
  rintro i ⟨hi, hgv⟩
  refine JC_seq (JC_seq ?_)
  refine JC_region ?_
  refine JL_1 rfl (op_move rfl) ?_
  refine JL_1 rfl (op_move rfl) ?_
  refine JL_1 rfl (by exact op_len (Ev.rfl' rfl) rfl) ?_
  refine JL_1 rfl (op_lss (Ev.rfl' rfl) (Ev.rfl' rfl)) ?_
  refine JL_nil ?_
  refine JQ_then ?_
  refine JC_cond (Ev.rfl' rfl) (fun h10 => ?_) (fun h10 => ?_)
  · have hlt : i < l.length := by have := of_decide_eq_true h10; omega
    clear h10
    obtain ⟨v, hx⟩ : ∃ v, l[i]? = some v := ⟨_, List.getElem?_eq_getElem hlt⟩
    refine JC_skip (JQ_then (JC_seq (JC_block (JC_seq ?_))))
    refine JC_dr rfl (by kernel_rfl) ?_
    refine JD_stretch 15 (by kernel_rfl) ?_
    refine JW_1 (op_move rfl) ?_
    refine JW_1 (op_move rfl) ?_
    refine JW_1 (by exact op_index (j := i) (Ev.rfl' rfl) (Ev.rfl' rfl) rfl rfl (by rfl) hx) ?_
    refine JW_1 (by exact op_loadRefsN (n := 9) (Ev.rfl' rfl) rfl rfl rfl (by rfl) nrmT) ?_
    refine JW_1 (op_move rfl) ?_
    refine JW_1 (by exact op_nilCheck (Ev.rfl' rfl)) ?_
    refine JW_1 (by exact op_fieldPtr (k := 1) (Ev.rfl' rfl) rfl rfl rfl rfl) ?_
    refine JW_1 (by exact op_loadPtr (Ev.rfl' rfl) memT (by rfl) (by rfl) (by rfl)) ?_
    refine JW_1 (by exact op_lenLit (Ev.rfl' rfl) rfl) ?_
    refine JW_1 (op_move rfl) ?_
    refine JW_1 (by exact op_nilCheck (Ev.rfl' rfl)) ?_
    refine JW_1 (by exact op_fieldPtr (k := 0) (Ev.rfl' rfl) rfl rfl rfl rfl) ?_
    refine JW_1 (by exact op_loadPtr (Ev.rfl' rfl) memT (by rfl) (by rfl) (by rfl)) ?_
    refine JW_1 (op_call Tryz.call91 (ValidVR_ok _ _ _) ⟨evS, ⟨evS, ⟨evS, trivial⟩⟩⟩) ?_
    refine JW_1 (op_assign rfl) ?_
    refine ⟨rfl, ?_⟩
    refine JD_end ?_
    refine JQ_then (JC_seq ?_)
    refine JC_ex (R := fun z : {z : Int // z = 0 ↔ GoodV v n 98} => Is (.int .i64 z.1)) 8 rfl (fun z => ?_)
    obtain ⟨z, hz⟩ := z
    refine JC_region ?_
    refine JL_1 rfl (op_move rfl) ?_
    refine JL_1 rfl (op_neq (Ev.rfl' rfl) (Ev.rfl' rfl)) ?_
    refine JL_nil ?_
    refine JQ_then ?_
    refine JC_cond (Ev.rfl' rfl) (fun h13 => ?_) (fun h13 => ?_)
    · have hz0' : z ≠ 0 := by simpa using h13
      refine JC_seq ?_
      refine JC_region ?_
      refine JL_1 rfl (op_move rfl) ?_
      refine JL_1 rfl (op_assign rfl) ?_
      refine JL_nil ?_
      refine JQ_then (JC_ret (JQ_block_ret (JQ_then_ret (JQ_then_ret (JQ_block_ret (JQ_then_ret ?_))))))
      exact JQ_retP (Bs := [Is (.int .i64 z)]) Tryz.results75 ⟨⟨_, rfl, subT⟩, trivial⟩ ⟨⟨z, (none, 0), (none, 0), []⟩, fun h => absurd h hz0'⟩ SubL.rfl' (by rw [if_neg hz0']; exact SubP.nil _)
    have hgz : GoodV v n 98 := hz.1 (by simpa using h13)
    refine JC_skip (JQ_block (JQ_then ?_))
    refine JC_region ?_
    refine JL_1 rfl (op_move rfl) ?_
    refine JL_1 rfl (op_add (Ev.rfl' rfl) (Ev.rfl' rfl) wrapT) ?_
    refine JL_1 rfl (op_assign rfl) ?_
    refine JL_nil ?_
    exact JQ_roundP (i + 1) ⟨by omega, fun u hu => by rw [take_add1 hx] at hu; rcases List.mem_append.1 hu with hu | hu; exact hgv u hu; rw [List.mem_singleton] at hu; rw [hu]; exact hgz⟩ (by omega) esubT lessM
  have hie : i = l.length := by have := of_decide_eq_false h10; omega
  clear h10
  rw [hie, List.take_length] at hgv
  refine JC_exit (JQ_then_exit (JQ_then_exit (JQ_hit (JQ_then (JC_seq (JC_seq ?_))))))
  refine JC_region ?_
  refine JL_1 rfl (op_assign rfl) ?_
  refine JL_nil ?_
  refine JQ_then (JC_block ?_)
  refine JC_loopP (fun u : Nat × List Pr => u.1 ≤ l.length ∧ PInv n u.1 u.2) (fun u => [(0, Is (.pointer (some ⟨f, 0, none⟩))), (1, Is (.int .i64 0)), (2, IsSl tGVerb l), (9, Is (.int .i64 (u.1 : Nat)))]) (fun u => fabL f n nb cb lb pb nds cn0 u.2) (fun u => l.length - u.1) (0, pairsV 1 n) ⟨Nat.zero_le _, PInv.start⟩ esubT lessM ?_
  rintro ⟨i2, prs⟩ ⟨hi2, hpi⟩
  dsimp only at hi2 hpi ⊢
  refine JC_seq (JC_seq ?_)
  refine JC_region ?_
  refine JL_1 rfl (op_move rfl) ?_
  refine JL_1 rfl (op_move rfl) ?_
  refine JL_1 rfl (by exact op_len (Ev.rfl' rfl) rfl) ?_
  refine JL_1 rfl (op_lss (Ev.rfl' rfl) (Ev.rfl' rfl)) ?_
  refine JL_nil ?_
  refine JQ_then ?_
  refine JC_cond (Ev.rfl' rfl) (fun h16 => ?_) (fun h16 => ?_)
  · have hlt : i2 < l.length := by have := of_decide_eq_true h16; omega
    clear h16
    obtain ⟨v, hx⟩ : ∃ v, l[i2]? = some v := ⟨_, List.getElem?_eq_getElem hlt⟩
    have hvl := List.mem_of_getElem? hx
    have hgz := hgv v hvl
    have hnd := hgz.nd
    obtain ⟨k, hk⟩ : ∃ k : Nat, (k : Int) = v.node := ⟨v.node.toNat, by omega⟩
    have hplen := hpi.len
    obtain ⟨pr, hz⟩ : ∃ pr, prs[k]? = some pr := ⟨_, List.getElem?_eq_getElem (by omega)⟩
    obtain ⟨hc1, hc2, hc3⟩ := hpi.cl k pr hz
    have hpp := PairPost_ok n pb prs k pr hz v (hgz.more ⟨by omega, by omega⟩) (by omega) (by omega) (hlw v hvl) (i2 : Nat)
    refine JC_skip (JQ_then (JC_seq (JC_block ?_)))
    refine JC_dr rfl (by kernel_rfl) ?_
    refine JD_stretch 22 (by kernel_rfl) ?_
    refine JW_1 (op_move rfl) ?_
    refine JW_1 (by exact op_nilCheck (Ev.rfl' rfl)) ?_
    refine JW_1 (by exact op_fieldPtr (k := 3) (Ev.rfl' rfl) rfl rfl rfl rfl) ?_
    refine JW_1 (by exact op_loadPtr (Ev.rfl' rfl) memT (by rfl) (by rfl) (by rfl)) ?_
    refine JW_1 (op_move rfl) ?_
    refine JW_1 (by exact op_indexBuf (k := 0) (Ev.rfl' rfl) memT (Ev.rfl' rfl) rfl rfl idxT lenT) ?_
    refine JW_1 (by exact op_loadBuf0 (Ev.rfl' rfl) memT hzl rfl rfl (by rfl)) ?_
    refine JW_1 (op_move rfl) ?_
    refine JW_1 (op_move rfl) ?_
    refine JW_1 (by exact op_index (j := i2) (Ev.rfl' rfl) (Ev.rfl' rfl) rfl rfl (by rfl) hx) ?_
    refine JW_1 (by exact op_fieldRefN (k := 1) (Ev.rfl' rfl) rfl rfl rfl rfl nrmT) ?_
    refine JW_1 (by exact op_loadRef (Ev.rfl' rfl) rfl rfl rfl) ?_
    refine JW_1 (by exact op_indexBuf (k := k) (Ev.rfl' rfl) memT (Ev.rfl' rfl) rfl rfl idxT lenT) ?_
    refine JW_1 (op_move rfl) ?_
    refine JW_1 (op_move rfl) ?_
    refine JW_1 (by exact op_index (j := i2) (Ev.rfl' rfl) (Ev.rfl' rfl) rfl rfl (by rfl) hx) ?_
    refine JW_1 (by exact op_loadRefsN (n := 9) (Ev.rfl' rfl) rfl rfl rfl (by rfl) nrmT) ?_
    refine JW_1 (op_move rfl) ?_
    refine JW_1 (by exact op_nilCheck (Ev.rfl' rfl)) ?_
    refine JW_1 (by exact op_fieldPtr (k := 0) (Ev.rfl' rfl) rfl rfl rfl rfl) ?_
    refine JW_1 (by exact op_loadPtr (Ev.rfl' rfl) memT (by rfl) (by rfl) (by rfl)) ?_
    refine JW_1 (op_move rfl) ?_
    refine ⟨rfl, ?_⟩
    (refine JD_s (by kernel_rfl) rfl rfl (op_callM (Drops.cons drop1A (Drops.nil _)) Tryz.call92 (hpp) ⟨evS, ⟨evS, ⟨evS, ⟨evS, trivial⟩⟩⟩⟩) ?_; intro i84)
    refine JD_end ?_
    refine JQ_block (JQ_then ?_)
    refine JC_region ?_
    refine JL_1 rfl (op_move rfl) ?_
    refine JL_1 rfl (op_add (Ev.rfl' rfl) (Ev.rfl' rfl) wrapT) ?_
    refine JL_1 rfl (op_assign rfl) ?_
    refine JL_nil ?_
    exact JQ_roundP (i2 + 1, prs.set k (pr.withQ (pr.q ++ [⟨v, 0, [], (i2 : Nat)⟩]))) ⟨by dsimp only; omega, hpi.step hz (hgz.more ⟨by omega, by omega⟩) (hlw v hvl)⟩ (by dsimp only; omega) esubT lessM
  have hie : i2 = l.length := by have := of_decide_eq_false h16; omega
  clear h16
  subst hie
  refine JC_exit (JQ_then_exit (JQ_then_exit (JQ_hit (JQ_then (JC_seq ?_)))))
  refine JC_region ?_
  refine JL_1 rfl (op_move rfl) ?_
  refine JL_1 rfl (by exact op_nilCheck (Ev.rfl' rfl)) ?_
  refine JL_1 rfl (by exact op_fieldPtr (k := 2) (Ev.rfl' rfl) rfl rfl rfl rfl) ?_
  refine JL_1 rfl (by exact op_loadPtr (Ev.rfl' rfl) memT (by rfl) (by rfl) (by rfl)) ?_
  refine JL_1 rfl (op_move rfl) ?_
  refine JL_1 rfl (by exact op_indexBuf (k := 0) (Ev.rfl' rfl) memT (Ev.rfl' rfl) rfl rfl idxT lenT) ?_
  refine JL_1 rfl (op_assign rfl) ?_
  refine JL_nil ?_
  refine JQ_then (JC_seq ?_)
  refine JC_own (T := tCn) (xs := [cn0]) (i := cb) (n := 1) memT (by decide) (fun gg cap hcb => ?_)
  refine JC_dr rfl (by kernel_rfl) ?_
  refine JD_front (it := buf _ _ tCn _) (by repeat (first | exact Drop1.here _ _ | apply Drop1.next)) ?_
  refine JD_float (its := [_]) 14 1 5 96 (by kernel_rfl) (by kernel_rfl) rfl ?_
  refine JG_1 gT (op_move rfl) ?_
  refine JG_1 gT (op_move rfl) ?_
  refine JG_1 gT (op_move rfl) ?_
  refine JG_1 gT (op_move rfl) ?_
  refine JG_1 gT (by exact op_len (Ev.rfl' rfl) rfl) ?_
  refine JG_n gT (op_makeRowN tDn dn0 [.int .i64 0, .slice none 0 0] (n := l.length) (Ev.rfl' rfl) (Ev.rfl' rfl) (fun φ => ⟨rfl, ⟨none, 0, 0, rfl, rfl, Nat.le_refl _, Nat.zero_le _, .inl rfl⟩, trivial⟩) rfl (by rfl) rfl rfl rfl (by rfl) (by omega) (by decide)) ?_
  refine JG_1 gT (op_move rfl) ?_
  refine JG_1 gT (by exact op_len (Ev.rfl' rfl) rfl) ?_
  refine JG_n gT (op_makeRow tBl false (n := l.length) (Ev.rfl' rfl) (Ev.rfl' rfl) rfl rfl rfl rfl rfl (by rfl) (by omega)) ?_
  refine JG_1 gT (op_nilSome hcb (Ev.rfl' rfl)) ?_
  refine JG_1 gT (op_fieldSome (k := 2) hcb (Ev.rfl' rfl) rfl rfl rfl rfl) ?_
  refine JG_g (s := 124) gT rfl (by kernel_rfl) (fun c' => by exact op_storeBuf (z' := (⟨true, 1, true, .slice none 0 0, .slice none 0 0, 0, 0⟩ : Cn)) (Ev.rfl' rfl) (Ev.rfl' rfl) cellsT replT (show [cn0][0]? = some _ from rfl) rfl (by rfl) (by rfl)) ?_
  refine JG_1 gT (op_nilSome hcb (Ev.rfl' rfl)) ?_
  refine JG_1 gT (op_fieldSome (k := 3) hcb (Ev.rfl' rfl) rfl rfl rfl rfl) ?_
  refine ⟨_, _, _, rfl, fun i96 => ?_⟩
  refine JG_g (s := 124) gT rfl (by kernel_rfl) (fun c' => by exact op_storeBuf (z' := (⟨true, 1, true, (slV l.length (some ⟨i96, 0, none⟩, l.length)), .slice none 0 0, 0, 0⟩ : Cn)) (Ev.rfl' rfl) (Ev.rfl' rfl) cellsT replT (show [(⟨true, 1, true, .slice none 0 0, .slice none 0 0, 0, 0⟩ : Cn)][0]? = some _ from rfl) rfl (by rfl) (by rfl)) ?_
  refine ⟨rfl, ?_⟩
  intro _ i99
  refine JD_stretch 2 (by kernel_rfl) ?_
  refine JW_1 (by exact op_nilBuf (Ev.rfl' rfl) memT lenT) ?_
  refine JW_1 (by exact op_fieldBuf (k := 4) (Ev.rfl' rfl) memT lenT rfl rfl rfl rfl) ?_
  refine ⟨rfl, ?_⟩
  refine JD_s0 (by kernel_rfl) rfl (by exact op_storeBuf (z' := (⟨true, 1, true, (slV l.length (some ⟨i96, 0, none⟩, l.length)), (slV l.length (some ⟨i99, 0, none⟩, l.length)), 0, 0⟩ : Cn)) (Ev.rfl' rfl) (Ev.rfl' rfl) cellsT replT (show [(⟨true, 1, true, (slV l.length (some ⟨i96, 0, none⟩, l.length)), .slice none 0 0, 0, 0⟩ : Cn)][0]? = some _ from rfl) rfl (by rfl) (by rfl)) ?_
  refine JD_end ?_
  refine JQ_then (JC_seq ?_)
  refine JC_dr rfl (by kernel_rfl) ?_
  refine JD_phase [0, 0, 0, 1, 1, 1, 0, 0, 1, 1, 1, 0, 0, 0, 1, 1, 2, 1, 1, 2] (by kernel_rfl) (by kernel_rfl) ?_
  refine PW_0 (op_move rfl) ?_
  refine PW_0 (op_move rfl) ?_
  refine PW_0 (op_move rfl) ?_
  refine PW_1 (by exact op_nilBuf (Ev.rfl' rfl) memT lenT) ?_
  refine PW_1 (by exact op_fieldBuf (k := 5) (Ev.rfl' rfl) memT lenT rfl rfl rfl rfl) ?_
  refine PW_1 (by exact op_loadBuf (Ev.rfl' rfl) memT (show [(⟨true, 1, true, (slV l.length (some ⟨i96, 0, none⟩, l.length)), (slV l.length (some ⟨i99, 0, none⟩, l.length)), 0, 0⟩ : Cn)][0]? = some _ from rfl) rfl rfl (by rfl)) ?_
  refine PW_0 (op_add (Ev.rfl' rfl) (Ev.rfl' rfl) wrapT) ?_
  refine PW_0 (op_move rfl) ?_
  refine PW_1 (by exact op_nilBuf (Ev.rfl' rfl) memT lenT) ?_
  refine PW_1 (by exact op_fieldBuf (k := 6) (Ev.rfl' rfl) memT lenT rfl rfl rfl rfl) ?_
  refine PW_1 (by exact op_loadBuf (Ev.rfl' rfl) memT (show [(⟨true, 1, true, (slV l.length (some ⟨i96, 0, none⟩, l.length)), (slV l.length (some ⟨i99, 0, none⟩, l.length)), 0, 0⟩ : Cn)][0]? = some _ from rfl) rfl rfl (by rfl)) ?_
  refine PW_0 (op_move rfl) ?_
  refine PW_0 (by exact op_len (Ev.rfl' rfl) rfl) ?_
  refine PW_0 (op_add (Ev.rfl' rfl) (Ev.rfl' rfl) ((wI64 (n := (0 : Int) + (l.length : Nat)) (by omega)).trans (Int.zero_add _))) ?_
  refine PW_1 (by exact op_nilBuf (Ev.rfl' rfl) memT lenT) ?_
  refine PW_1 (by exact op_fieldBuf (k := 5) (Ev.rfl' rfl) memT lenT rfl rfl rfl rfl) ?_
  refine PW_2 (by exact op_storeBuf (z' := (⟨true, 1, true, (slV l.length (some ⟨i96, 0, none⟩, l.length)), (slV l.length (some ⟨i99, 0, none⟩, l.length)), 1, 0⟩ : Cn)) (Ev.rfl' rfl) (Ev.rfl' rfl) cellsT replT (show [(⟨true, 1, true, (slV l.length (some ⟨i96, 0, none⟩, l.length)), (slV l.length (some ⟨i99, 0, none⟩, l.length)), 0, 0⟩ : Cn)][0]? = some _ from rfl) rfl (by rfl) (by rfl)) ?_
  refine PW_1 (by exact op_nilBuf (Ev.rfl' rfl) memT lenT) ?_
  refine PW_1 (by exact op_fieldBuf (k := 6) (Ev.rfl' rfl) memT lenT rfl rfl rfl rfl) ?_
  refine PW_2 (by exact op_storeBuf (z' := (⟨true, 1, true, (slV l.length (some ⟨i96, 0, none⟩, l.length)), (slV l.length (some ⟨i99, 0, none⟩, l.length)), 1, (l.length : Nat)⟩ : Cn)) (Ev.rfl' rfl) (Ev.rfl' rfl) cellsT replT (show [(⟨true, 1, true, (slV l.length (some ⟨i96, 0, none⟩, l.length)), (slV l.length (some ⟨i99, 0, none⟩, l.length)), 1, 0⟩ : Cn)][0]? = some _ from rfl) rfl (by rfl) (by rfl)) ?_
  refine PW_end ?_
  refine JD_end ?_
  refine JQ_then (JC_seq ?_)
  refine JC_region ?_
  refine JL_1 rfl (op_assign rfl) ?_
  refine JL_nil ?_
  refine JQ_then (JC_ret ?_)
  exact JQ_retP (Bs := [Is (.int .i64 0)]) Tryz.results75 ⟨⟨_, rfl, subT⟩, trivial⟩ ⟨⟨0, (some ⟨i96, 0, none⟩, l.length), (some ⟨i99, 0, none⟩, l.length), prs⟩, fun _ => ⟨hpi, hl0, hl1⟩⟩ SubL.rfl' (by rw [if_pos rfl]; exact lessM)
end Go.Proofs.YtfglhiciagmicaaGreat

/- A drawn region walked in any order that its edges allow: operations that only look at their own operands may come up whenever they like (floaters), others are barriers. Own work. -/
namespace Go.Proofs.YtfglhiciagmicaaGreat
open Go.RowKit
set_option linter.unusedVariables false
set_option linter.unusedSimpArgs false
section
variable {P : Program} {ops : Array Oper} {c : Ctx} {N : Nat} {L : List Item}
def inB (l : List Nat) (i : Nat) : Bool := l.any fun j => Nat.beq j i
theorem inB_iff {l : List Nat} {i : Nat} : inB l i = true ↔ i ∈ l := by
  unfold inB
  rw [List.any_eq_true]
  constructor
  · rintro ⟨j, h1, h2⟩; rw [← Nat.eq_of_beq_eq_true h2]; exact h1
  · intro h; exact ⟨i, h, by simp⟩
/-- What is known of the operations that have been walked: those of dn have come up for sure, those of fr lean on no memory. -/
structure FV (P : Program) (ops : Array Oper) (c : Ctx) (nd : List Nat) (L : List Item) (fr dn ks : List Nat) (m : List Ent) (A0 : Nat → Option Out) : Prop where
  at_ : ∀ x, x ∈ m → ops[x.i]? = some x.o
  dif : m.Pairwise (fun x y => x.i ≠ y.i)
  ord : m.Pairwise (fun x y => y.i < x.i → (ndOf nd x.i).testBit y.i = false)
  op : ∀ m1 x m2, m = m1 ++ x :: m2 → (inB dn x.i = false → LocOp P ops c L x.o (acc (fun _ => true) m1 A0) x.F x.kl ∧ (inB fr x.i = true → ∀ L', LocOp P ops c L' x.o (acc (fun _ => true) m1 A0) x.F x.kl)) ∧ KillOk ops nd x.i x.o (acc (fun _ => true) m1 A0) x.kl
  kls : ∀ x, x ∈ m → ∀ s, x.kl = some s → s ∈ ks
/-- What has come up. -/
structure FS (ops : Array Oper) (nd : List Nat) (dn : List Nat) (m : List Ent) (listed : Array Bool) : Prop where
  cl : Cl ops nd listed
  done : ∀ i, inB dn i = true → listed.getD i false = true
  only : ∀ i, listed.getD i false = true → ∃ x, x ∈ m ∧ x.i = i
@[reducible] def lst (listed : Array Bool) : Nat → Bool := fun i => listed.getD i false
theorem fstep {Q : Exit → Act → World → Prop} {nd : List Nat} {fr dn ks : List Nat} {m : List Ent} {A0 : Nat → Option Out} (hg : Good ops nd) (hN : opsAll (fun _ o => dstB N o.dst) ops.toList 0 = true) (hv : FV P ops c nd L fr dn ks m A0)
    {φ : Fz} {a : Act} {w : World} {listed : Array Bool} (hs : FS ops nd dn m listed) (st : SS c N (acc (lst listed) m A0) L φ a w) {x : Ent} (hxm : x ∈ m) (hi : x.i ∈ Region.ready .any ops listed) {u : Nat}
    (next : ∀ φ' a' w', FS ops nd dn m (listed.setIfInBounds x.i true) → SS c N (acc (lst (listed.setIfInBounds x.i true)) m A0) L φ' a' w' → wpAny P .any ops Q u (listed.setIfInBounds x.i true) a' w') :
    wpOp P ops Q x.i (wpAny P .any ops Q u (listed.setIfInBounds x.i true)) a w := by
  obtain ⟨i, hix⟩ : ∃ i, i = x.i := ⟨_, rfl⟩
  rw [← hix] at hi next ⊢
  have ex1 : x.i = i := hix.symm
  obtain ⟨hiu, oi, hoi, hiall⟩ := mem_ready.1 hi
  have hilt : i < ops.size := (Array.getElem?_eq_some_iff.1 hoi).1
  have hc := hs.cl
  have hox : x.o = oi := by
    have h1 := hv.at_ x hxm
    rw [ex1] at h1
    exact Option.some.inj (h1.symm.trans hoi)
  have hdi : inB dn i = false := by
    cases hv' : inB dn i with
    | false => rfl
    | true => have := hs.done i hv'; rw [getD_tf hiu] at this; cases this
  obtain ⟨m1, m2, hsplit⟩ := List.append_of_mem hxm
  have hiL : i < listed.size := by rw [hc.size]; exact hilt
  have hne : ∀ y, y ∈ m1 ∨ y ∈ m2 → y.i ≠ i := fun y hy => by
    have h1 := hv.dif
    rw [hsplit] at h1
    obtain ⟨h2, h3, h4⟩ := List.pairwise_append.1 h1
    rcases hy with hy | hy
    · rw [← ex1]; exact h4 y hy x (List.mem_cons_self ..)
    · rw [← ex1]; exact fun e => (List.pairwise_cons.1 h3).1 y hy e.symm
  have hord1 : ∀ y, y ∈ m1 → i < y.i → (ndOf nd y.i).testBit i = false := fun y hy hlt => by
    have h1 := hv.ord
    rw [hsplit] at h1
    have := (List.pairwise_append.1 h1).2.2 y hy x (List.mem_cons_self ..)
    rw [ex1] at this
    exact this hlt
  have hord2 : ∀ y, y ∈ m2 → y.i < i → (ndOf nd i).testBit y.i = false := fun y hy hlt => by
    have h1 := hv.ord
    rw [hsplit] at h1
    have := (List.pairwise_cons.1 (List.pairwise_append.1 h1).2.1).1 y hy
    rw [ex1] at this
    exact this hlt
  have hkm : ∀ y, y ∈ m → ∀ s, y.kl = some s → (s ∈ y.o.looksAt ops ∨ wrB y.o = true) ∧ ∀ j x, ops[j]? = some x → s ∈ namesOf ops x ∨ (s ∉ y.o.looksAt ops ∧ wrB y.o = true ∧ wrB x = true) → j ≠ y.i → (y.i < j → (ndOf nd j).testBit y.i = true) ∧ (j < y.i → (ndOf nd y.i).testBit j = true) := fun y hy s hs => by
      obtain ⟨p1, p2, hp12⟩ := List.append_of_mem hy
      have := (hv.op p1 y p2 hp12).2 s hs
      exact ⟨this.1.1, this.2⟩
  have ordd : ∀ y, y ∈ m → y.i ≠ i → ops[y.i]? = some y.o → (∃ t, y.tch t ∧ (t ∈ namesOf ops oi ∨ x.kl = some t)) → (i < y.i → (ndOf nd y.i).testBit i = true) ∧ (y.i < i → (ndOf nd i).testBit y.i = true) := fun y hym hne h2 ⟨t, ht, htn⟩ => by
    rcases htn with htn | htn
    · rcases ht with ht | ht
      · have := hg.ord y.i y.o t i oi h2 ht hoi htn (fun e => hne e)
        exact ⟨this.2, this.1⟩
      · have := (hkm y hym t ht).2 i oi hoi (.inl htn) (fun e => hne e.symm)
        exact ⟨this.2, this.1⟩
    · have hx1 := hkm x hxm t htn
      rw [hox, ex1] at hx1
      rcases ht with ht | ht
      · have := hx1.2 y.i y.o h2 (.inl (List.mem_append_right _ (by rw [ht]; simp))) hne
        exact this
      · by_cases htl : t ∈ namesOf ops y.o
        · exact hx1.2 y.i y.o h2 (.inl htl) hne
        · have hyd : wrB y.o = true := (hkm y hym t ht).1.resolve_left fun e => htl (List.mem_append_left _ e)
          by_cases htx : t ∈ namesOf ops oi
          · have := (hkm y hym t ht).2 i oi hoi (.inl htx) (fun e => hne e.symm)
            exact ⟨this.2, this.1⟩
          · have hxl : t ∉ oi.looksAt ops := fun e => htx (List.mem_append_left _ e)
            have hxd : wrB oi = true := hx1.1.resolve_left hxl
            exact hx1.2 y.i y.o h2 (.inr ⟨hxl, hxd, hyd⟩) hne
  have later : ∀ y, y ∈ m2 → (∃ t, y.tch t ∧ (t ∈ namesOf ops oi ∨ x.kl = some t)) → listed.getD y.i false = false := fun y hy ht => by
    have hym : y ∈ m := by rw [hsplit]; exact List.mem_append_right _ (List.mem_cons_of_mem _ hy)
    have h1 := hne y (.inr hy)
    have h2 := hv.at_ y hym
    cases hvv : listed.getD y.i false with
    | false => rfl
    | true =>
      have h3 := ordd y hym h1 h2 ht
      rcases Nat.lt_or_gt_of_ne h1 with h4 | h4
      · rw [hord2 y hy h4] at h3; exact absurd (h3.2 h4) (by simp)
      · have h5 := hc.cl _ hvv i (h3.1 h4)
        rw [getD_tf hiu] at h5; cases h5
  have earlier : ∀ y, y ∈ m1 → (∃ t, y.tch t ∧ (t ∈ namesOf ops oi ∨ x.kl = some t)) → listed.getD y.i false = true := fun y hy ht => by
    have hym : y ∈ m := by rw [hsplit]; exact List.mem_append_left _ hy
    have h1 := hne y (.inl hy)
    have h2 := hv.at_ y hym
    have h3 := ordd y hym h1 h2 ht
    rcases Nat.lt_or_gt_of_ne h1 with h4 | h4
    · exact ready_need hg hc hi (h3.2 h4)
    · rw [hord1 y hy h4] at h3; exact absurd (h3.1 h4) (by simp)
  have hsame : ∀ t, t ∈ oi.looksAt ops ∨ x.kl = some t → acc (lst listed) m A0 t = acc (fun _ => true) m1 A0 t := fun t ht => by
    have htn : t ∈ namesOf ops oi ∨ x.kl = some t := ht.imp (List.mem_append_left _) id
    rw [hsplit, acc_append]
    have h1 : acc (lst listed) (x :: m2) (acc (lst listed) m1 A0) t = acc (lst listed) m1 A0 t := by
      refine acc_skip fun y hy hyt => ?_
      rcases List.mem_cons.1 hy with rfl | hy
      · show listed.getD y.i false = false
        rw [ex1]; exact getD_tf hiu
      · exact later y hy ⟨t, hyt, htn⟩
    rw [h1]
    exact acc_congr rfl fun y hy hyt => earlier y hy ⟨t, hyt, htn⟩
  have hloc : LocOp P ops c L oi (acc (lst listed) m A0) x.F x.kl := by
    have h0 := ((hv.op m1 x m2 hsplit).1 (by rw [ex1]; exact hdi)).1
    rw [hox] at h0
    exact h0.congr hsame
  have hkok : ∀ s, x.kl = some s → (s ∈ oi.looksAt ops ∨ wrB oi = true) ∧ ∃ (ι : Type) (val : ι → Value) (I : ι → Item), acc (lst listed) m A0 s = some (.own val I) := fun s hs => by
    obtain ⟨⟨h1, ι, val, I, h2⟩, _⟩ := (hv.op m1 x m2 hsplit).2 s hs
    rw [hox] at h1
    exact ⟨h1, ι, val, I, by rw [hsame s (.inr hs)]; exact h2⟩
  have hget : ∀ j, j ≠ i → (listed.setIfInBounds i true).getD j false = listed.getD j false := fun j hj => getD_set_ne false (Ne.symm hj)
  have hiT : (listed.setIfInBounds i true).getD i false = true := by simp [hiL]
  have hacc : ∀ t, putO (killO (acc (lst listed) m A0) x.kl) (tgt oi x.kl) x.F t = acc (lst (listed.setIfInBounds i true)) m A0 t := fun t => by
    have happ : putO (killO (acc (lst listed) m A0) x.kl) (tgt oi x.kl) x.F = x.app (acc (lst listed) m A0) := by unfold Ent.app; rw [hox]
    rw [happ]
    by_cases hd : x.tch t
    · rw [hsplit, acc_append, acc_append]
      simp only [acc]
      rw [ex1, show lst (listed.setIfInBounds i true) i = true from hiT]
      simp only [cond_true]
      have hnm : t ∈ namesOf ops oi ∨ x.kl = some t := by
        rcases hd with hd | hd
        · rw [hox] at hd; exact .inl (by unfold namesOf; rw [hd]; simp)
        · exact .inr hd
      have h2 : acc (lst (listed.setIfInBounds i true)) m2 (x.app (acc (lst (listed.setIfInBounds i true)) m1 A0)) t = x.app (acc (lst (listed.setIfInBounds i true)) m1 A0) t := by
        refine acc_skip fun y hy hyt => ?_
        show (listed.setIfInBounds i true).getD y.i false = false
        rw [hget y.i (hne y (.inr hy))]
        exact later y hy ⟨t, hyt, hnm⟩
      rw [h2]
      exact Ent.app_same (.inl hd)
    · rw [Ent.app_ne hd]
      refine acc_congr rfl fun y hy hyt => (hget y.i fun hyi => ?_).symm
      rw [hsplit] at hy
      rcases List.mem_append.1 hy with hy | hy
      · exact hne y (.inl hy) hyi
      · rcases List.mem_cons.1 hy with rfl | hy
        · exact hd hyt
        · exact hne y (.inr hy) hyi
  have hfs : FS ops nd dn m (listed.setIfInBounds i true) := by
    refine ⟨hc.set hg hi, fun j hj => ?_, fun j hj => ?_⟩
    · by_cases hji : j = i
      · subst hji; exact hiT
      · rw [hget j hji]; exact hs.done j hj
    · by_cases hji : j = i
      · subst hji; exact ⟨x, hxm, ex1⟩
      · rw [hget j hji] at hj; exact hs.only j hj
  obtain ⟨M, hM1, hM2, hM3⟩ := SS.takes (ops := ops) (o := oi) (kl := x.kl) st hkok
  have hnext : ∀ φ' v w', x.F.post M φ w φ' (res oi x.kl a v) w' → wpAny P .any ops Q u (listed.setIfInBounds i true) (a.put oi.dst v) w' := fun φ' v w' hpost => by
    have h9 := (hM3 (tgt oi x.kl) x.F φ' (res oi x.kl a v) w' (fun t ht => ?_) hpost).congr hacc
    · rw [put_res] at h9
      exact next φ' _ w' hfs h9
    · cases hd : oi.dst with
      | some d =>
        rw [tgt_some hd] at ht
        injection ht with ht
        subst ht
        have := opsAll_spec hN i oi (by simpa using hoi)
        exact .inl (dstB_spec this _ hd)
      | none =>
        rw [tgt_kl hd] at ht
        rw [ht, res_kl hd]
        exact .inr rfl
  have hfin := hloc φ a w _ Q M hM1 hM2 (fun t ht B hB => by
    cases hA : acc (lst listed) m A0 t with
    | none => rw [hA] at hB; cases hB
    | some D =>
      rw [hA] at hB
      cases D with
      | v D => obtain rfl : D = B := by simpa [Out.toV] using hB
               exact st.env t D hA
      | own val I => cases hB) hnext
  unfold wpOp
  simp only [hoi]
  split
  · rename_i hw
    rw [hw] at hfin
    exact .inl (by simpa using hfin)
  · rename_i hw
    have hw' : Region.wanted oi (yielded ops a.tmps) = false := by simpa using hw
    rw [hw'] at hfin
    have hidle : x.kl = none ∧ x.F.idle φ := by simpa using hfin
    have hM0 : M = [] := by rw [hidle.1] at hM2; exact hM2
    subst hM0
    refine hnext φ undef w ?_
    rw [hidle.1, res_none]
    cases hF : x.F with
    | v F => rw [hF] at hidle; exact ⟨HP.start (L := []) ⟨st.mem.mem.base, by simp, List.Pairwise.nil⟩, hidle.2⟩
    | own val I => rw [hF] at hidle; exact hidle.2.elim
/-- The walked ones come up in any order; what else may come up is asked for. -/
theorem frun {Q : Exit → Act → World → Prop} {nd : List Nat} {fr dn ks : List Nat} {m : List Ent} {A0 : Nat → Option Out} (hg : Good ops nd) (hN : opsAll (fun _ o => dstB N o.dst) ops.toList 0 = true) (hv : FV P ops c nd L fr dn ks m A0)
    (exit : ∀ φ a w listed, FS ops nd dn m listed → SS c N (acc (lst listed) m A0) L φ a w → wpAny P .any ops Q (unl ops.size listed) listed a w ∨
      ((Region.ready .any ops listed = [] → Q .normal a w) ∧ ∀ i, i ∈ Region.ready .any ops listed → (∀ x, x ∈ m → x.i ≠ i) → wpOp P ops Q i (wpAny P .any ops Q (unl ops.size (listed.setIfInBounds i true)) (listed.setIfInBounds i true)) a w)) :
    ∀ (u : Nat) (φ : Fz) (a : Act) (w : World) (listed : Array Bool), unl ops.size listed = u → FS ops nd dn m listed → SS c N (acc (lst listed) m A0) L φ a w → wpAny P .any ops Q u listed a w := by
  intro u
  induction u with
  | zero =>
    intro φ a w listed hu hs st
    rcases exit φ a w listed hs st with h | ⟨h1, h2⟩
    · rw [hu] at h; exact h
    · have hall := unl_zero hu
      have hr : Region.ready .any ops listed = [] := by
        cases hr : Region.ready .any ops listed with
        | nil => rfl
        | cons i l =>
          exfalso
          have hm : i ∈ Region.ready .any ops listed := by rw [hr]; exact List.mem_cons_self ..
          obtain ⟨h3, o, ho, _⟩ := mem_ready.1 hm
          rw [hall i (Array.getElem?_eq_some_iff.1 ho).1] at h3
          cases h3
      exact ⟨hr, h1 hr⟩
  | succ u ih =>
    intro φ a w listed hu hs st
    rcases exit φ a w listed hs st with h | ⟨h1, h2⟩
    · rw [hu] at h; exact h
    · refine ⟨h1, fun i hi => ?_⟩
      obtain ⟨hiu, oi, hoi, _⟩ := mem_ready.1 hi
      have hilt : i < ops.size := (Array.getElem?_eq_some_iff.1 hoi).1
      have hunl : unl ops.size (listed.setIfInBounds i true) = u := by
        have := unl_set (by rw [hs.cl.size]; exact hilt) hiu hilt; omega
      by_cases hx : ∃ x, x ∈ m ∧ x.i = i
      · obtain ⟨x, hxm, rfl⟩ := hx
        exact fstep hg hN hv hs st hxm hi fun φ' a' w' hs' st' => ih φ' a' w' _ hunl hs' st'
      · have := h2 i hi fun x hxm e => hx ⟨x, hxm, e⟩
        rw [hunl] at this; exact this
theorem SS.bar {A : Nat → Option Out} {φ φ' : Fz} {a : Act} {w w' : World} {L' : List Item} {d : Option Tmp} {F : VP} {v : Value} (h : SS c N A L φ a w) (hd : ∀ t, d = some t → t < N) (hp : HP ⟨w, φ, names L, []⟩ φ' L' w') (hF : F.ok φ' v) : SS c N (putO A d (.v F)) L' φ' (a.put d v) w' := by
  have hle : Fle φ φ' := hp.fle h.mem.mem.base
  have hmem : HP c φ' L' w' := by
    have := HP.call (L := L) (M := []) (by rw [List.append_nil]; exact h.mem) hp
    rwa [List.append_nil] at this
  obtain ⟨β, hβ, hap⟩ := h.own
  have key : ∀ (t : Tmp) (o : Out), putO A d (.v F) t = some o → (d = some t ∧ o = .v F) ∨ (d ≠ some t ∧ A t = some o) := fun t o ht => by
    by_cases e : d = some t
    · rw [e, putO_eq] at ht
      injection ht with ht
      exact .inl ⟨e, ht.symm⟩
    · rw [putO_ne e] at ht
      exact .inr ⟨e, ht⟩
  refine ⟨by rw [Act.put_defs]; exact h.defers, by rw [Act.put_size]; exact h.size, fun t B ht => ?_, hmem, β, fun t ι val I ht => ?_, fun t t' ι ι' val I val' I' hne ht ht' => ?_⟩
  · rcases key t _ ht with ⟨e, e2⟩ | ⟨e, ht⟩
    · injection e2 with e2
      subst e2 e
      rw [put_get_same (.inl (by rw [h.size]; exact hd t rfl))]; exact hF
    · rw [put_get_ne e]; exact B.mono hle (h.env t B ht)
  · rcases key t _ ht with ⟨e, e2⟩ | ⟨e, ht⟩
    · cases e2
    · obtain ⟨h1, ⟨h2, h3⟩, h4⟩ := hβ t ι val I ht
      refine ⟨by rw [put_get_ne e]; exact h1, ⟨?_, fun b hb => ?_⟩, fun b hb => ⟨(h4 b hb).1, fun hn => ?_⟩⟩
      · cases hat : (β t).at_ with
        | none => rw [hat] at h2; exact (β t).mono hle h2
        | some b =>
          have h5 := (h3 b hat).1
          have h6 := (h4 b hat).2
          rw [hat] at h2
          simp only [Option.bind_some] at h2 ⊢
          rw [hp.kept.block b h5 h6]
          exact (β t).mono hle h2
      · refine ⟨Nat.lt_of_lt_of_le (h3 b hb).1 hp.kept.size, fun i => ?_⟩
        rw [hp.old b i (h3 b hb).1]; exact (h3 b hb).2 i
      · rcases hp.mine b hn with h5 | h5
        · exact absurd (h3 b hb).1 (Nat.not_lt.2 h5)
        · exact (h4 b hb).2 h5
  · rcases key t _ ht with ⟨e, e2⟩ | ⟨e, ht⟩
    · cases e2
    · rcases key t' _ ht' with ⟨e', e2'⟩ | ⟨e', ht'⟩
      · cases e2'
      · exact hap t t' _ _ val I val' I' hne ht ht'
/-- The walk: mi have been walked, dn of them have come up for sure, fr of them lean on no memory, ks has been taken. -/
def JF (P : Program) (ops : Array Oper) (Q : Exit → Act → World → Prop) (c : Ctx) (N : Nat) (nd : List Nat) (fr dn ks mi : List Nat) (EO : EnvO) (L : List Item) : Prop :=
  Good ops nd → opsAll (fun _ o => dstB N o.dst) ops.toList 0 = true → ∀ m A0, FV P ops c nd L fr dn ks m A0 → (∀ i, inB mi i = true ↔ ∃ x, x ∈ m ∧ x.i = i) → acc (fun _ => true) m A0 = lookO EO →
    ∀ φ a w listed, FS ops nd dn m listed → SS c N (acc (lst listed) m A0) L φ a w → wpAny P .any ops Q (unl ops.size listed) listed a w
theorem split_snoc {α : Type _} {m m1 m2 : List α} {e x : α} (h : m ++ [e] = m1 ++ x :: m2) : (m1 = m ∧ x = e ∧ m2 = []) ∨ ∃ m3, m2 = m3 ++ [e] ∧ m = m1 ++ x :: m3 := by
  rcases List.eq_nil_or_concat m2 with rfl | ⟨m3, y, rfl⟩
  · have := List.append_inj' h rfl
    obtain ⟨h1, h2⟩ := this
    injection h2 with h2
    exact .inl ⟨h1.symm, h2.symm, rfl⟩
  · have h' : m ++ [e] = (m1 ++ x :: m3) ++ [y] := by rw [h]; simp
    obtain ⟨h1, h2⟩ := List.append_inj' h' rfl
    injection h2 with h2
    exact .inr ⟨m3, by rw [h2]; simp, h1⟩
def newB (nd mi : List Nat) (i : Nat) : Bool := !inB mi i && mi.all fun j => !Nat.blt i j || !(ndOf nd j).testBit i
section
variable {Q : Exit → Act → World → Prop} {nd : List Nat} {fr dn ks mi : List Nat} {EO : EnvO}
theorem FV.snoc {m : List Ent} {A0 : Nat → Option Out} {e : Ent} {fr' dn' ks' : List Nat} {L' : List Item} (hv : FV P ops c nd L fr dn ks m A0) (ha : ops[e.i]? = some e.o) (hd : ∀ x, x ∈ m → x.i ≠ e.i) (ho : ∀ x, x ∈ m → e.i < x.i → (ndOf nd x.i).testBit e.i = false)
    (hL : ∀ x, x ∈ m → ∀ m1, inB dn' x.i = false → inB dn x.i = false ∧ ((LocOp P ops c L x.o (acc (fun _ => true) m1 A0) x.F x.kl ∧ (inB fr x.i = true → ∀ L'', LocOp P ops c L'' x.o (acc (fun _ => true) m1 A0) x.F x.kl)) → (LocOp P ops c L' x.o (acc (fun _ => true) m1 A0) x.F x.kl ∧ (inB fr' x.i = true → ∀ L'', LocOp P ops c L'' x.o (acc (fun _ => true) m1 A0) x.F x.kl))))
    (he : inB dn' e.i = false → LocOp P ops c L' e.o (acc (fun _ => true) m A0) e.F e.kl ∧ (inB fr' e.i = true → ∀ L'', LocOp P ops c L'' e.o (acc (fun _ => true) m A0) e.F e.kl)) (hk : KillOk ops nd e.i e.o (acc (fun _ => true) m A0) e.kl)
    (hks : ∀ s, s ∈ ks → s ∈ ks') (hke : ∀ s, e.kl = some s → s ∈ ks') : FV P ops c nd L' fr' dn' ks' (m ++ [e]) A0 := by
  refine ⟨fun x hx => ?_, List.pairwise_append.2 ⟨hv.dif, List.pairwise_singleton _ _, fun x hx y hy => ?_⟩, List.pairwise_append.2 ⟨hv.ord, List.pairwise_singleton _ _, fun x hx y hy => ?_⟩, fun m1 x m2 hm => ?_, fun x hx s hs => ?_⟩
  · rcases List.mem_append.1 hx with hx | hx
    · exact hv.at_ x hx
    · rw [List.mem_singleton] at hx; subst hx; exact ha
  · rw [List.mem_singleton] at hy; subst hy; exact hd x hx
  · rw [List.mem_singleton] at hy; subst hy; exact ho x hx
  · rcases split_snoc hm with ⟨rfl, rfl, rfl⟩ | ⟨m3, rfl, hm'⟩
    · exact ⟨he, hk⟩
    · have hx : x ∈ m := by rw [hm']; exact List.mem_append_right _ (List.mem_cons_self ..)
      obtain ⟨h1, h2⟩ := hv.op m1 x m3 hm'
      refine ⟨fun hdn => ?_, h2⟩
      obtain ⟨h3, h4⟩ := hL x hx m1 hdn
      exact h4 (h1 h3)
  · rcases List.mem_append.1 hx with hx | hx
    · exact hks _ (hv.kls x hx s hs)
    · rw [List.mem_singleton] at hx; subst hx; exact hke s hs
theorem mi_snoc {m : List Ent} {e : Ent} (h : ∀ i, inB mi i = true ↔ ∃ x, x ∈ m ∧ x.i = i) : ∀ i, inB (e.i :: mi) i = true ↔ ∃ x, x ∈ m ++ [e] ∧ x.i = i := fun i => by
  constructor
  · intro hi
    rcases List.mem_cons.1 (inB_iff.1 hi) with rfl | hi
    · exact ⟨e, List.mem_append_right _ (List.mem_singleton.2 rfl), rfl⟩
    · obtain ⟨x, h1, h2⟩ := (h i).1 (inB_iff.2 hi)
      exact ⟨x, List.mem_append_left _ h1, h2⟩
  · rintro ⟨x, hx, rfl⟩
    refine inB_iff.2 ?_
    rcases List.mem_append.1 hx with hx | hx
    · exact List.mem_cons_of_mem _ (inB_iff.1 ((h x.i).2 ⟨x, hx, rfl⟩))
    · rw [List.mem_singleton] at hx; subst hx; exact List.mem_cons_self ..
theorem JF_add {i : Nat} {o : Oper} {F : Out} {kl : Option Tmp} (fr' : List Nat) (hi : ops[i]? = some o) (hB : newB nd mi i = true) (hk : KillOk ops nd i o (lookO EO) kl) (hl : LocOp P ops c L o (lookO EO) F kl) (hf : fr' = fr ∧ inB fr i = false ∨ fr' = i :: fr ∧ ∀ L', LocOp P ops c L' o (lookO EO) F kl)
    (h : JF P ops Q c N nd fr' dn (kl.toList ++ ks) (i :: mi) (putEO (killE EO kl) (tgt o kl) F) L) : JF P ops Q c N nd fr dn ks mi EO L := by
  intro hg hN m A0 hv hmi hacc φ a w listed hs st
  unfold newB at hB
  simp only [Bool.and_eq_true] at hB
  obtain ⟨hB1, hB2⟩ := hB
  have hnew : ∀ x, x ∈ m → x.i ≠ i := fun x hx e => by
    have := (hmi x.i).2 ⟨x, hx, rfl⟩
    rw [e] at this
    rw [this] at hB1; cases hB1
  have hun : listed.getD i false = false := by
    cases hv' : listed.getD i false with
    | false => rfl
    | true =>
      obtain ⟨x, h1, h2⟩ := hs.only i hv'
      exact absurd h2 (hnew x h1)
  have hfr : ∀ x, x ∈ m → inB fr' x.i = true → inB fr x.i = true := fun x hx hx' => by
    rcases hf with ⟨e, _⟩ | ⟨e, _⟩
    · rw [e] at hx'; exact hx'
    · rw [e] at hx'
      rcases List.mem_cons.1 (inB_iff.1 hx') with h1 | h1
      · exact absurd h1 (hnew x hx)
      · exact inB_iff.2 h1
  refine h hg hN (m ++ [⟨i, o, F, kl⟩]) A0 (hv.snoc hi hnew (fun x hx hlt => ?_) (fun x hx m1 hd => ⟨hd, fun h1 => ⟨h1.1, fun h2 => h1.2 (hfr x hx h2)⟩⟩) (fun _ => ⟨by rw [hacc]; exact hl, fun h1 => ?_⟩) (by rw [hacc]; exact hk) (fun s hs => List.mem_append_right _ hs) (fun s hs => ?_)) (mi_snoc (e := ⟨i, o, F, kl⟩) hmi) ?_ φ a w listed ⟨hs.cl, hs.done, fun j hj => ?_⟩ (st.congr fun t => ?_)
  · have h1 := List.all_eq_true.1 hB2 x.i (inB_iff.1 ((hmi x.i).2 ⟨x, hx, rfl⟩))
    have h2 : Nat.blt i x.i = true := by simpa using hlt
    rw [h2] at h1
    simpa using h1
  · rw [hacc]
    rcases hf with ⟨e, h2⟩ | ⟨e, h2⟩
    · have h1' : inB fr' i = true := h1
      rw [e, h2] at h1'; cases h1'
    · exact h2
  · have hs' : kl = some s := hs
    rw [hs']; exact List.mem_append_left _ (by simp)
  · rw [acc_append, hacc, lookO_put, lookO_kill]; rfl
  · obtain ⟨x, h1, h2⟩ := hs.only j hj
    exact ⟨x, List.mem_append_left _ h1, h2⟩
  · rw [acc_append]
    refine (acc_skip fun x hx _ => ?_).symm
    rw [List.mem_singleton] at hx; subst hx; exact hun
def barB (ops : Array Oper) (nd fr dn dn' mi : List Nat) (i : Nat) : Bool :=
  !inB mi i && (mi.all fun j => !(ndOf nd j).testBit i) && ((List.range ops.size).all fun j => inB mi j || Nat.beq j i || (ndOf nd j).testBit i) &&
    (dn'.all fun j => Nat.beq j i || inB dn j || (ndOf nd i).testBit j) && (mi.all fun j => inB dn' j || inB fr j) && inB dn' i && (dn.all fun j => inB dn' j)
theorem JF_bar {i : Nat} {o : Oper} {ι : Type} {F : ι → VP} {L' : ι → List Item} (dn' : List Nat) (hi : ops[i]? = some o) (hgd : o.guard = none) (hB : barB ops nd fr dn dn' mi i = true) (hs : ∀ c' : Ctx, OpS P c' o (vals EO) L F L')
    (h : ∀ z, JF P ops Q c N nd fr dn' ks (i :: mi) (putEO EO o.dst (.v (F z))) (L' z)) : JF P ops Q c N nd fr dn ks mi EO L := by
  intro hg hN m A0 hv hmi hacc φ a w listed hfs st
  unfold barB at hB
  simp only [Bool.and_eq_true] at hB
  obtain ⟨⟨⟨⟨⟨⟨hB1, hB2⟩, hB3⟩, hB4⟩, hB5⟩, hB6⟩, hB7⟩ := hB
  have hilt : i < ops.size := (Array.getElem?_eq_some_iff.1 hi).1
  have hnew : ∀ x, x ∈ m → x.i ≠ i := fun x hx e => by
    have := (hmi x.i).2 ⟨x, hx, rfl⟩
    rw [e] at this
    rw [this] at hB1; cases hB1
  have hnn : ∀ x, x ∈ m → (ndOf nd x.i).testBit i = false := fun x hx => by
    have := List.all_eq_true.1 hB2 x.i (inB_iff.1 ((hmi x.i).2 ⟨x, hx, rfl⟩))
    simpa using this
  refine frun hg hN hv (fun φ a w listed hfs st => .inr ⟨fun hr => ?_, fun j hj hjm => ?_⟩) _ φ a w listed rfl hfs st
  · have hun : listed.getD i true = false := by
      cases hv' : listed.getD i true with
      | false => rfl
      | true =>
        have h1 : listed.getD i false = true := by
          have : i < listed.size := by rw [hfs.cl.size]; exact hilt
          simp [this] at hv' ⊢; exact hv'
        obtain ⟨x, h2, h3⟩ := hfs.only i h1
        exact absurd h3 (hnew x h2)
    obtain ⟨i0, h1, h2, h3⟩ := exists_least_unl (listed := listed) ops.size ⟨i, hilt, hun⟩
    have := ready_least hg hfs.cl.size h1 h2 h3
    rw [hr] at this; cases this
  · have hun : listed.getD i false = false := by
      cases hv' : listed.getD i false with
      | false => rfl
      | true =>
        obtain ⟨x, h2, h3⟩ := hfs.only i hv'
        exact absurd h3 (hnew x h2)
    have hji : j = i := by
      obtain ⟨_, oj, hoj, _⟩ := mem_ready.1 hj
      have h1 := List.all_eq_true.1 hB3 j (List.mem_range.2 (Array.getElem?_eq_some_iff.1 hoj).1)
      simp only [Bool.or_eq_true] at h1
      rcases h1 with (h1 | h1) | h1
      · obtain ⟨x, h2, h3⟩ := (hmi j).1 h1
        exact absurd h3 (hjm x h2)
      · exact Nat.eq_of_beq_eq_true h1
      · have := ready_need hg hfs.cl hj h1
        rw [hun] at this; cases this
    subst hji
    unfold wpOp
    simp only [hi]
    rw [if_pos (by simp [Region.wanted, hgd])]
    refine .inl (hs ⟨w, φ, names L, []⟩ φ a w _ Q (HP.start st.mem.mem) (evs (ops := ops) st.mem.mem.facts fun t ht B hB => ?_) fun z φ' v w' hle hF hp => ?_)
    · have h1 : acc (lst listed) m A0 t = lookO EO t := by
        rw [← hacc]
        refine acc_congr rfl fun y hy hyt => ?_
        show listed.getD y.i false = true
        have hyo := hv.at_ y hy
        have hne := hnew y hy
        have h2 : (y.i < j → (ndOf nd j).testBit y.i = true) ∧ (j < y.i → (ndOf nd y.i).testBit j = true) := by
          rcases hyt with hyt | hyt
          · exact hg.ord y.i y.o t j o hyo hyt hi (List.mem_append_left _ ht) hne
          · obtain ⟨p1, p2, hp12⟩ := List.append_of_mem hy
            have h3 := ((hv.op p1 y p2 hp12).2 t hyt).2 j o hi (.inl (List.mem_append_left _ ht)) (Ne.symm hne)
            exact h3
        rcases Nat.lt_or_gt_of_ne hne with h3 | h3
        · exact ready_need hg hfs.cl hj (h2.1 h3)
        · have := h2.2 h3
          rw [hnn y hy] at this; cases this
      cases hA : lookO EO t with
      | none => rw [hA] at hB; cases hB
      | some D =>
        rw [hA] at hB h1
        cases D with
        | v D => obtain rfl : D = B := by simpa [Out.toV] using hB
                 exact st.env t D h1
        | own val I => cases hB
    · have hcl := hfs.cl.set hg hj
      have hjl : j < listed.size := by rw [hfs.cl.size]; exact hilt
      have hjT : (listed.setIfInBounds j true).getD j false = true := by simp [hjl]
      have hget : ∀ q, q ≠ j → (listed.setIfInBounds j true).getD q false = listed.getD q false := fun q hq => getD_set_ne false (Ne.symm hq)
      have hdst : ∀ t, o.dst = some t → t < N := by
        have := opsAll_spec hN j o (by simpa using hi)
        exact dstB_spec this
      refine h z hg hN (m ++ [⟨j, o, .v (F z), none⟩]) A0 (hv.snoc hi hnew (fun x hx _ => hnn x hx) (fun x hx m1 hd => ?_) (fun hd => ?_) killOk_none (fun s hs => hs) (fun s hs => by cases hs)) (mi_snoc (e := ⟨j, o, .v (F z), none⟩) hmi) ?_ φ' _ w' _ ⟨hcl, fun q hq => ?_, fun q hq => ?_⟩ ((st.bar hdst hp hF).congr fun t => ?_)
      · have hdx : inB dn x.i = false := by
          cases hv' : inB dn x.i with
          | false => rfl
          | true => have := List.all_eq_true.1 hB7 x.i (inB_iff.1 hv'); rw [hd] at this; cases this
        refine ⟨hdx, fun h1 => ?_⟩
        have h2 := List.all_eq_true.1 hB5 x.i (inB_iff.1 ((hmi x.i).2 ⟨x, hx, rfl⟩))
        rw [hd, Bool.false_or] at h2
        exact ⟨h1.2 h2 _, h1.2⟩
      · have hd' : inB dn' j = false := hd
        rw [hB6] at hd'; cases hd'
      · rw [acc_append, hacc, lookO_put]
        show Ent.app _ _ = _
        unfold Ent.app killO
        dsimp only
        rw [tgt_none]
        simp
      · by_cases hqj : q = j
        · subst hqj; exact hjT
        · rw [hget q hqj]
          have h1 := List.all_eq_true.1 hB4 q (inB_iff.1 hq)
          simp only [Bool.or_eq_true] at h1
          rcases h1 with (h1 | h1) | h1
          · exact absurd (Nat.eq_of_beq_eq_true h1) hqj
          · exact hfs.done q h1
          · exact ready_need hg hfs.cl hj h1
      · by_cases hqj : q = j
        · subst hqj; exact ⟨_, List.mem_append_right _ (List.mem_singleton.2 rfl), rfl⟩
        · rw [hget q hqj] at hq
          obtain ⟨x, h1, h2⟩ := hfs.only q hq
          exact ⟨x, List.mem_append_left _ h1, h2⟩
      · rw [acc_append]
        have h1 : acc (lst (listed.setIfInBounds j true)) [⟨j, o, .v (F z), none⟩] (acc (lst (listed.setIfInBounds j true)) m A0) = (⟨j, o, .v (F z), none⟩ : Ent).app (acc (lst (listed.setIfInBounds j true)) m A0) := by
          show (bif lst (listed.setIfInBounds j true) j then _ else _) = _
          rw [show lst (listed.setIfInBounds j true) j = true from hjT]; rfl
        rw [h1]
        have h2 : ∀ t, acc (lst (listed.setIfInBounds j true)) m A0 t = acc (lst listed) m A0 t := fun t => acc_congr rfl fun x hx _ => hget x.i (hnew x hx)
        unfold Ent.app
        dsimp only
        rw [tgt_none]
        by_cases hdt : o.dst = some t
        · rw [hdt, putO_eq, putO_eq]
        · rw [putO_ne hdt, putO_ne hdt, ← h2 t]
          unfold killO; simp
theorem JF_end (hB : ((List.range ops.size).all fun j => inB mi j) = true) (hb : bareB EO [] = true) (h : opn EO fun E M => JQ c N E (M ++ L) Q .normal) : JF P ops Q c N nd fr dn ks mi EO L := by
  intro hg hN m A0 hv hmi hacc φ a w listed hfs st
  refine frun hg hN hv (fun φ a w listed hfs st => .inr ⟨fun hr => ?_, fun j hj hjm => ?_⟩) _ φ a w listed rfl hfs st
  · have hall : ∀ x, x ∈ m → listed.getD x.i false = true := fun x hx => by
      have hlt := (Array.getElem?_eq_some_iff.1 (hv.at_ x hx)).1
      cases hv' : listed.getD x.i false with
      | true => rfl
      | false =>
        have h1 : listed.getD x.i true = false := by
          have : x.i < listed.size := by rw [hfs.cl.size]; exact hlt
          simp [this] at hv' ⊢; exact hv'
        obtain ⟨i0, h1, h2, h3⟩ := exists_least_unl (listed := listed) ops.size ⟨x.i, hlt, h1⟩
        have := ready_least hg hfs.cl.size h1 h2 h3
        rw [hr] at this; cases this
    have st' := st.congr (B := lookO EO) fun t => by
      rw [← hacc]
      exact acc_congr rfl fun x hx _ => hall x hx
    obtain ⟨E, M, h1, h2⟩ := st'.open_ hb h
    exact h1 φ a w h2
  · exfalso
    obtain ⟨_, oj, hoj, _⟩ := mem_ready.1 hj
    have h1 := List.all_eq_true.1 hB j (List.mem_range.2 (Array.getElem?_eq_some_iff.1 hoj).1)
    obtain ⟨x, h2, h3⟩ := (hmi j).1 h1
    exact hjm x h2 h3
def nameB (ops : Array Oper) (nd ks mi : List Nat) (d t : Nat) : Bool :=
  inB mi d && ((List.range ops.size).all fun j => inB mi j || (ndOf nd j).testBit d) && (mi.all fun j => Nat.beq j d || !(match ops[j]? with | some x => (namesOf ops x).any (fun s => Nat.beq s t) | none => false)) && !inB ks t
theorem JF_name {ι : Type} {val : ι → Value} {I : ι → Item} (t d : Nat) (hB : nameB ops nd ks mi d t = true) (hd : ((ops[d]?).bind (·.dst)) = some t) (hl : lookO EO t = some (.own val I))
    (h : ∀ i, JF P ops Q c N nd fr (d :: dn) ks mi ((t, .v (Is (val i))) :: killE EO (some t)) (I i :: L)) : JF P ops Q c N nd fr dn ks mi EO L := by
  intro hg hN m A0 hv hmi hacc φ a w listed hfs st
  unfold nameB at hB
  simp only [Bool.and_eq_true] at hB
  obtain ⟨⟨⟨hB1, hB2⟩, hB3⟩, hB4⟩ := hB
  obtain ⟨xd, hxd1, hxd2⟩ := (hmi d).1 hB1
  have hdlt : d < ops.size := by rw [← hxd2]; exact (Array.getElem?_eq_some_iff.1 (hv.at_ xd hxd1)).1
  have hto : ∀ x, x ∈ m → x.tch t → x.i = d := fun x hx ht => by
    rcases ht with ht | ht
    · have h1 := List.all_eq_true.1 hB3 x.i (inB_iff.1 ((hmi x.i).2 ⟨x, hx, rfl⟩))
      rw [hv.at_ x hx] at h1
      simp only [Bool.or_eq_true] at h1
      rcases h1 with h1 | h1
      · exact Nat.eq_of_beq_eq_true h1
      · have h2 : ((namesOf ops x.o).any fun s => Nat.beq s t) = true := List.any_eq_true.2 ⟨t, List.mem_append_right _ (by rw [ht]; simp), by simp⟩
        rw [h2] at h1; cases h1
    · have h1 := inB_iff.2 (hv.kls x hx t ht)
      rw [h1] at hB4; cases hB4
  have hnl : ∀ x, x ∈ m → x.i ≠ d → t ∉ namesOf ops x.o := fun x hx hne h2 => by
    have h1 := List.all_eq_true.1 hB3 x.i (inB_iff.1 ((hmi x.i).2 ⟨x, hx, rfl⟩))
    rw [hv.at_ x hx] at h1
    simp only [Bool.or_eq_true] at h1
    rcases h1 with h1 | h1
    · exact hne (Nat.eq_of_beq_eq_true h1)
    · have h2 : ((namesOf ops x.o).any fun s => Nat.beq s t) = true := List.any_eq_true.2 ⟨t, h2, by simp⟩
      rw [h2] at h1; cases h1
  refine frun hg hN hv (fun φ a w listed hfs st => ?_) _ φ a w listed rfl hfs st
  cases hld : listed.getD d false with
  | false =>
    refine .inr ⟨fun hr => ?_, fun j hj hjm => ?_⟩
    · have h1 : listed.getD d true = false := by
        have : d < listed.size := by rw [hfs.cl.size]; exact hdlt
        simp [this] at hld ⊢; exact hld
      obtain ⟨i0, h1, h2, h3⟩ := exists_least_unl (listed := listed) ops.size ⟨d, hdlt, h1⟩
      have := ready_least hg hfs.cl.size h1 h2 h3
      rw [hr] at this; cases this
    · exfalso
      obtain ⟨_, oj, hoj, _⟩ := mem_ready.1 hj
      have h1 := List.all_eq_true.1 hB2 j (List.mem_range.2 (Array.getElem?_eq_some_iff.1 hoj).1)
      simp only [Bool.or_eq_true] at h1
      rcases h1 with h1 | h1
      · obtain ⟨x, h2, h3⟩ := (hmi j).1 h1
        exact hjm x h2 h3
      · have := ready_need hg hfs.cl hj h1
        rw [hld] at this; cases this
  | true =>
    left
    have hAt : acc (lst listed) m A0 t = some (.own val I) := by
      rw [← hl, ← hacc]
      exact acc_congr rfl fun x hx ht => by rw [hto x hx ht]; exact hld
    obtain ⟨i, st2⟩ := st.openT hAt
    let tell : Ent → Ent := fun x => if x.i = d then ⟨x.i, x.o, .v (Is (val i)), x.kl⟩ else x
    have htl : ∀ x : Ent, x.i ≠ d → tell x = x := fun x hx => if_neg hx
    have htd : ∀ x : Ent, x.i = d → tell x = ⟨x.i, x.o, .v (Is (val i)), x.kl⟩ := fun x hx => if_pos hx
    have htio : ∀ x : Ent, (tell x).i = x.i ∧ (tell x).o = x.o := fun x => by
      by_cases hx : x.i = d
      · rw [htd x hx]; exact ⟨rfl, rfl⟩
      · rw [htl x hx]; exact ⟨rfl, rfl⟩
    have htk : ∀ x : Ent, (tell x).kl = x.kl := fun x => by
      by_cases hx : x.i = d
      · rw [htd x hx]
      · rw [htl x hx]
    have hxd : ∀ x, x ∈ m → x.i = d → x.o.dst = some t := fun x hx hi => by
      have h2 := hv.at_ x hx
      rw [hi] at h2
      rw [h2] at hd; exact hd
    have hkt : ∀ x, x ∈ m → x.kl ≠ some t := fun x hx e => by
      have h1 := inB_iff.2 (hv.kls x hx t e)
      rw [h1] at hB4; cases hB4
    have happ : ∀ x, x ∈ m → ∀ s, s ≠ t → ∀ A B : Nat → Option Out, A s = B s → x.app A s = (tell x).app B s := fun x hx s hs A B hAB => by
      by_cases hi : x.i = d
      · rw [htd x hi]
        unfold Ent.app
        dsimp only
        have h1 := tgt_some (hxd x hx hi) x.kl
        rw [h1, putO_ne (fun e => hs (Option.some.inj e).symm), putO_ne (fun e => hs (Option.some.inj e).symm)]
        unfold killO
        split
        · rfl
        · exact hAB
      · rw [htl x hi]
        by_cases ht : x.tch s
        · exact Ent.app_same (.inl ht)
        · exact Ent.app_same (.inr hAB)
    have haway : ∀ (p : Nat → Bool) (m1 : List Ent), (∀ x, x ∈ m1 → x ∈ m) → ∀ s, s ≠ t → acc p m1 A0 s = acc p (m1.map tell) A0 s := fun p m1 hm1 s hs => by
      refine acc_not (by simp) (fun j x x' h1 h2 => ?_) rfl
      rw [List.getElem?_map, h1] at h2
      simp only [Option.map_some, Option.some.injEq] at h2
      rw [← h2]
      exact ⟨(htio x).1, happ x (hm1 x (List.mem_of_getElem? h1)) s hs⟩
    have hat : ∀ p : Nat → Bool, p d = true → acc p (m.map tell) A0 t = some (.v (Is (val i))) := fun p hpd => by
      refine acc_at hpd (fun x hx => ?_) (.inr ⟨tell xd, List.mem_map.2 ⟨xd, hxd1, rfl⟩, by rw [(htio xd).1, hxd2]⟩)
      obtain ⟨y, hy, rfl⟩ := List.mem_map.1 hx
      refine ⟨fun hi A => ?_, fun hi ht => ?_⟩
      · rw [(htio y).1] at hi
        rw [htd y hi]
        unfold Ent.app
        dsimp only
        rw [tgt_some (hxd y hy hi), putO_eq]
      · rw [(htio y).1] at hi
        rw [htl y hi] at ht
        exact hi (hto y hy ht)
    have hv' : FV P ops c nd (I i :: L) fr (d :: dn) ks (m.map tell) A0 := by
      refine ⟨fun x hx => ?_, List.pairwise_map.2 (hv.dif.imp fun {x y} h1 => by rw [(htio x).1, (htio y).1]; exact h1), List.pairwise_map.2 (hv.ord.imp fun {x y} h1 => by rw [(htio x).1, (htio y).1]; exact h1), fun m1 x m2 hm => ?_, fun x hx s hs => ?_⟩
      · obtain ⟨y, hy, rfl⟩ := List.mem_map.1 hx
        rw [(htio y).1, (htio y).2]; exact hv.at_ y hy
      · obtain ⟨l1, l2, h1, rfl, h3⟩ := List.map_eq_append_iff.1 hm
        obtain ⟨y, l3, h4, rfl, rfl⟩ := List.map_eq_cons_iff.1 h3
        rw [h4] at h1
        have hym : y ∈ m := by rw [h1]; exact List.mem_append_right _ (List.mem_cons_self ..)
        have hl1 : ∀ x, x ∈ l1 → x ∈ m := fun x hx => by rw [h1]; exact List.mem_append_left _ hx
        obtain ⟨g1, g2⟩ := hv.op l1 y l3 h1
        refine ⟨fun hdn => ?_, fun s hs => ?_⟩
        · rw [(htio y).1] at hdn
          have hne : y.i ≠ d := fun e => by
            have : inB (d :: dn) y.i = true := inB_iff.2 (by rw [e]; exact List.mem_cons_self ..)
            rw [hdn] at this; cases this
          have hdn' : inB dn y.i = false := by
            cases hv' : inB dn y.i with
            | false => rfl
            | true =>
              have : inB (d :: dn) y.i = true := inB_iff.2 (List.mem_cons_of_mem _ (inB_iff.1 hv'))
              rw [hdn] at this; cases this
          rw [htl y hne]
          obtain ⟨g3, g4⟩ := g1 hdn'
          have hc : ∀ s, s ∈ y.o.looksAt ops ∨ y.kl = some s → acc (fun _ => true) (l1.map tell) A0 s = acc (fun _ => true) l1 A0 s := fun s hs => by
            refine (haway _ l1 hl1 s ?_).symm
            rintro rfl
            rcases hs with hs | hs
            · exact hnl y hym hne (List.mem_append_left _ hs)
            · exact hkt y hym hs
          exact ⟨g3.more.congr hc, fun h5 L'' => (g4 h5 L'').congr hc⟩
        · rw [htk y] at hs
          have hst : s ≠ t := fun e => hkt y hym (by rw [hs, e])
          obtain ⟨⟨g3, ι', val', I', g4⟩, g5⟩ := g2 s hs
          rw [(htio y).1, (htio y).2]
          exact ⟨⟨g3, ι', val', I', by rw [← haway _ l1 hl1 s hst]; exact g4⟩, g5⟩
      · obtain ⟨y, hy, rfl⟩ := List.mem_map.1 hx
        rw [htk y] at hs; exact hv.kls y hy s hs
    refine h i hg hN (m.map tell) A0 hv' (fun j => (hmi j).trans ⟨fun ⟨x, h1, h2⟩ => ⟨tell x, List.mem_map.2 ⟨x, h1, rfl⟩, by rw [(htio x).1]; exact h2⟩, fun ⟨x, h1, h2⟩ => ?_⟩) ?_ φ a w listed ⟨hfs.cl, fun j hj => ?_, fun j hj => ?_⟩ (st2.congr fun s => ?_)
    · obtain ⟨y, hy, rfl⟩ := List.mem_map.1 h1
      exact ⟨y, hy, by rw [← (htio y).1]; exact h2⟩
    · funext s
      by_cases hs : s = t
      · subst hs
        rw [hat _ rfl]
        simp [lookO]
      · rw [← haway _ m (fun x hx => hx) s hs, hacc]
        simp only [lookO, beq_ff (Ne.symm hs), cond_false]
        rw [lookO_kill, killO_ne (fun e => hs (Option.some.inj e).symm)]
    · rcases List.mem_cons.1 (inB_iff.1 hj) with rfl | hj
      · exact hld
      · exact hfs.done j (inB_iff.2 hj)
    · obtain ⟨x, h1, h2⟩ := hfs.only j hj
      exact ⟨tell x, List.mem_map.2 ⟨x, h1, rfl⟩, by rw [(htio x).1]; exact h2⟩
    · by_cases hs : s = t
      · subst hs
        rw [if_pos rfl, hat _ hld]
      · rw [if_neg hs]; exact haway _ m (fun x hx => hx) s hs
theorem JD_fl {its : List Item} {rest : List Oper} {E : Env} (h : JF P ops Q c N nd [] [] [] [] (ghosts N its ++ liftE E) L) : JD P ops Q c N nd 0 rest E (its ++ L) := fun hg hN hk hrest φ a w listed hp st =>
  h hg hN [] (lookO (ghosts N its ++ liftE E)) ⟨fun x hx => (by cases hx), List.Pairwise.nil, List.Pairwise.nil, fun m1 x m2 hm => (by simp at hm), fun x hx => (by cases hx)⟩ (fun i => ⟨fun hi => absurd (inB_iff.1 hi) (by simp), fun ⟨x, hx, _⟩ => (by cases hx)⟩) rfl φ a w listed
    ⟨hp.cl, fun i hi => absurd (inB_iff.1 hi) (by simp), fun i hi => by
      exfalso
      have hlt : i < listed.size := by
        rcases Nat.lt_or_ge i listed.size with h1 | h1
        · exact h1
        · simp [Nat.not_lt.2 h1] at hi
      have h1 : listed.getD i true = true := by simp [hlt] at hi ⊢; exact hi
      have := (hp.pre i (by rw [← hp.cl.size]; exact hlt)).1 h1
      omega⟩ (SS.startG st)
/-! ### The steps -/
section
variable {i : Nat} {t : Tmp} {op : Op} {ty : TypeId} {pos : String} {af : Array Edge}
theorem LocOp.p {o : Oper} {F : VP} (hgd : o.guard = none) (hs : OpP P c o (vals EO) L F) : LocOp P ops c L o (lookO EO) (.v F) none := fun φ a w K Q M hm ht hl hk => by
  rw [if_pos (by simp [Region.wanted, hgd])]
  obtain rfl : M = [] := ht
  exact hs φ a w K Q hm (evs hm.mem.facts hl) fun φ' v w' hp hf => hk φ' v w' (by rw [res_none]; exact ⟨hp, hf⟩)
theorem LocOp.n {o : Oper} {ι : Type} {val : ι → Value} {I : ι → Item} (hgd : o.guard = none) (hs : OpN P c o (vals EO) L val I) : LocOp P ops c L o (lookO EO) (.own val I) none := fun φ a w K Q M hm ht hl hk => by
  rw [if_pos (by simp [Region.wanted, hgd])]
  obtain rfl : M = [] := ht
  exact hs φ a w K Q hm (evs hm.mem.facts hl) fun i φ' w' hp => hk φ' _ w' ⟨i, res_none _ _ _, hp⟩
def newB1 (nd fr mi : List Nat) (i : Nat) : Bool := newB nd mi i && !inB fr i
theorem newB1_spec (h : newB1 nd fr mi i = true) : newB nd mi i = true ∧ inB fr i = false := by
  unfold newB1 at h
  simp only [Bool.and_eq_true, Bool.not_eq_true'] at h
  exact h
theorem JF_1 {F : VP} (i : Nat) (hi : ops[i]? = some ⟨some t, op, ty, pos, af, none⟩) (hB : newB1 nd fr mi i = true) (hs : OpP P c ⟨some t, op, ty, pos, af, none⟩ (vals EO) L F) (h : JF P ops Q c N nd fr dn ks (i :: mi) ((t, .v F) :: EO) L) : JF P ops Q c N nd fr dn ks mi EO L :=
  JF_add fr hi (newB1_spec hB).1 killOk_none (LocOp.p rfl hs) (.inl ⟨rfl, (newB1_spec hB).2⟩) h
theorem JF_1f {F : VP} (i : Nat) (hi : ops[i]? = some ⟨some t, op, ty, pos, af, none⟩) (hB : newB1 nd fr mi i = true) (hs : ∀ L, OpP P c ⟨some t, op, ty, pos, af, none⟩ (vals EO) L F) (h : JF P ops Q c N nd (i :: fr) dn ks (i :: mi) ((t, .v F) :: EO) L) : JF P ops Q c N nd fr dn ks mi EO L :=
  JF_add (i :: fr) hi (newB1_spec hB).1 killOk_none (LocOp.p rfl (hs L)) (.inr ⟨rfl, fun L' => LocOp.p rfl (hs L')⟩) h
theorem JF_n {ι : Type} {val : ι → Value} {I : ι → Item} (i : Nat) (hi : ops[i]? = some ⟨some t, op, ty, pos, af, none⟩) (hB : newB1 nd fr mi i = true) (hs : OpN P c ⟨some t, op, ty, pos, af, none⟩ (vals EO) L val I) (h : JF P ops Q c N nd fr dn ks (i :: mi) ((t, .own val I) :: EO) L) : JF P ops Q c N nd fr dn ks mi EO L :=
  JF_add fr hi (newB1_spec hB).1 killOk_none (LocOp.n rfl hs) (.inl ⟨rfl, (newB1_spec hB).2⟩) h
theorem JF_nf {ι : Type} {val : ι → Value} {I : ι → Item} (i : Nat) (hi : ops[i]? = some ⟨some t, op, ty, pos, af, none⟩) (hB : newB1 nd fr mi i = true) (hs : ∀ L, OpN P c ⟨some t, op, ty, pos, af, none⟩ (vals EO) L val I) (h : JF P ops Q c N nd (i :: fr) dn ks (i :: mi) ((t, .own val I) :: EO) L) : JF P ops Q c N nd fr dn ks mi EO L :=
  JF_add (i :: fr) hi (newB1_spec hB).1 killOk_none (LocOp.n rfl (hs L)) (.inr ⟨rfl, fun L' => LocOp.n rfl (hs L')⟩) h
/-- A barrier with a result; without one. -/
theorem JF_b {ι : Type} {F : ι → VP} {L' : ι → List Item} (i : Nat) (dn' : List Nat) (hi : ops[i]? = some ⟨some t, op, ty, pos, af, none⟩) (hB : barB ops nd fr dn dn' mi i = true) (hs : ∀ c' : Ctx, OpS P c' ⟨some t, op, ty, pos, af, none⟩ (vals EO) L F L')
    (h : ∀ z, JF P ops Q c N nd fr dn' ks (i :: mi) ((t, .v (F z)) :: EO) (L' z)) : JF P ops Q c N nd fr dn ks mi EO L := JF_bar dn' hi rfl hB hs h
theorem JF_b0 {F : Unit → VP} {L' : Unit → List Item} (i : Nat) (dn' : List Nat) (hi : ops[i]? = some ⟨none, op, ty, pos, af, none⟩) (hB : barB ops nd fr dn dn' mi i = true) (hs : ∀ c' : Ctx, OpS P c' ⟨none, op, ty, pos, af, none⟩ (vals EO) L F L')
    (h : JF P ops Q c N nd fr dn' ks (i :: mi) EO (L' ())) : JF P ops Q c N nd fr dn ks mi EO L := JF_bar dn' hi rfl hB hs fun _ => h
end
end
end
end Go.Proofs.YtfglhiciagmicaaGreat

/- Contracts: a fabric takes one step. Own work. -/
namespace Go.Proofs.YtfglhiciagmicaaGreat
open Go.RowKit
set_option linter.unusedVariables false
set_option linter.unusedSimpArgs false
set_option maxRecDepth 100000
/-- The queues of a batch of m verbs under way. -/
structure QInv (n m : Nat) (prs : List Pr) (hs : List Bool) : Prop where
  len : prs.length = n
  hl : hs.length = m
  cl : ∀ (j : Nat) (pr : Pr), prs[j]? = some pr → pr.client = 0 ∧ pr.node = (j : Int) ∧ pr.q.length ≤ 1024
  inq : ∀ (j : Nat) (pr : Pr) (x : Pd), prs[j]? = some pr → x ∈ pr.q → InQ x ∧ 0 ≤ x.slot ∧ x.slot < (m : Int)
  all : ∀ s : Nat, hs[s]? = some false → ∃ (j : Nat) (pr : Pr) (x : Pd), prs[j]? = some pr ∧ x ∈ pr.q ∧ x.slot = (s : Int)
theorem PInv.toQ {n m : Nat} {prs : List Pr} (h : PInv n m prs) (hm : m ≤ 1024) : QInv n m prs (List.replicate m false) :=
  ⟨h.len, by simp, fun j pr hj => ⟨(h.cl j pr hj).1, (h.cl j pr hj).2.1, by have := (h.cl j pr hj).2.2; omega⟩, h.inq, fun s hs => h.all s (by have := (List.getElem?_eq_some_iff.1 hs).1; simpa using this)⟩
/-- How many pieces are left. -/
def leftP (x : Pd) : Nat := (piecesV x.v).length - x.ex.toNat
def leftQ (pr : Pr) : Nat := (pr.q.map leftP).sum
def leftF (prs : List Pr) : Nat := (prs.map leftQ).sum
theorem sum_set {α : Type} {g : α → Nat} : ∀ {l : List α} {k : Nat} {a b : α}, l[k]? = some a → ((l.set k b).map g).sum + g a = (l.map g).sum + g b
  | [], k, a, b, h => by simp at h
  | x :: l, 0, a, b, h => by
    simp at h; subst h
    simp; omega
  | x :: l, k + 1, a, b, h => by
    have := sum_set (g := g) (b := b) (l := l) (k := k) (by simpa using h)
    simp only [List.set_cons_succ, List.map_cons, List.sum_cons]; omega
theorem QInv.put {n m k : Nat} {prs : List Pr} {hs hs' : List Bool} {pr : Pr} {q : List Pd} (h : QInv n m prs hs) (hz : prs[k]? = some pr) (hl : q.length ≤ pr.q.length) (hl' : hs'.length = m)
    (hin : ∀ x, x ∈ q → InQ x ∧ 0 ≤ x.slot ∧ x.slot < (m : Int)) (hall : ∀ s : Nat, hs'[s]? = some false → hs[s]? = some false ∧ ∀ x, x ∈ pr.q → x.slot = (s : Int) → ∃ y, y ∈ q ∧ y.slot = (s : Int)) : QInv n m (prs.set k (pr.withQ q)) hs' := by
  have hk := (List.getElem?_eq_some_iff.1 hz).1
  have key : ∀ (j : Nat) (p : Pr), (prs.set k (pr.withQ q))[j]? = some p → (j = k ∧ p = pr.withQ q) ∨ (j ≠ k ∧ prs[j]? = some p) := fun j p hj => by
    by_cases e : j = k
    · subst e
      rw [List.getElem?_set_self hk] at hj
      injection hj with hj
      exact .inl ⟨rfl, hj.symm⟩
    · rw [List.getElem?_set_ne (Ne.symm e)] at hj
      exact .inr ⟨e, hj⟩
  refine ⟨by simp [h.len], hl', fun j p hj => ?_, fun j p x hj hx => ?_, fun s hs => ?_⟩
  · rcases key j p hj with ⟨rfl, rfl⟩ | ⟨e, hj⟩
    · obtain ⟨h1, h2, h3⟩ := h.cl j pr hz
      exact ⟨h1, h2, Nat.le_trans hl h3⟩
    · exact h.cl j p hj
  · rcases key j p hj with ⟨rfl, rfl⟩ | ⟨e, hj⟩
    · exact hin x hx
    · exact h.inq j p x hj hx
  · obtain ⟨h1, h2⟩ := hall s hs
    obtain ⟨j, p, x, h3, h4, h5⟩ := h.all s h1
    by_cases e : j = k
    · subst e
      rw [hz] at h3
      injection h3 with h3
      subst h3
      obtain ⟨y, h6, h7⟩ := h2 x h4 h5
      exact ⟨j, _, y, by rw [List.getElem?_set_self hk], h6, h7⟩
    · exact ⟨j, p, x, by rw [List.getElem?_set_ne (Ne.symm e)]; exact h3, h4, h5⟩
theorem QInv.fin {n m k : Nat} {prs : List Pr} {hs : List Bool} {pr : Pr} {x : Pd} {rest : List Pd} (h : QInv n m prs hs) (hz : prs[k]? = some pr) (hq : pr.q = x :: rest) : QInv n m (prs.set k (pr.withQ rest)) (hs.set x.slot.toNat true) ∧ leftF (prs.set k (pr.withQ rest)) < leftF prs := by
  have hx := h.inq k pr x hz (by rw [hq]; exact List.mem_cons_self ..)
  refine ⟨h.put hz (by rw [hq]; simp) (by simp [h.hl]) (fun y hy => h.inq k pr y hz (by rw [hq]; exact List.mem_cons_of_mem _ hy)) (fun s hs' => ?_), ?_⟩
  · have hne : s ≠ x.slot.toNat := fun e => by
      subst e
      rw [List.getElem?_set_self (by rw [h.hl]; omega)] at hs'
      cases hs'
    rw [List.getElem?_set_ne (Ne.symm hne)] at hs'
    refine ⟨hs', fun y hy hys => ?_⟩
    rw [hq] at hy
    rcases List.mem_cons.1 hy with rfl | hy
    · exact absurd (by omega) hne
    · exact ⟨y, hy, hys⟩
  · have h1 := sum_set (g := leftQ) (b := pr.withQ rest) hz
    have h2 : leftQ pr = leftP x + leftQ (pr.withQ rest) := by unfold leftQ Pr.withQ; rw [hq]; simp
    have h3 : 1 ≤ leftP x := by have := hx.1.hi; have := hx.1.lo; unfold leftP; omega
    unfold leftF; omega
theorem QInv.on {n m k : Nat} {prs : List Pr} {hs : List Bool} {pr : Pr} {x y : Pd} {rest : List Pd} (h : QInv n m prs hs) (hz : prs[k]? = some pr) (hq : pr.q = x :: rest) (hy : InQ y) (hs' : y.slot = x.slot) (hv : y.v = x.v) (he : y.ex = x.ex + 1) : QInv n m (prs.set k (pr.withQ (y :: rest))) hs ∧ leftF (prs.set k (pr.withQ (y :: rest))) < leftF prs := by
  have hx := h.inq k pr x hz (by rw [hq]; exact List.mem_cons_self ..)
  refine ⟨h.put hz (by rw [hq]; simp) h.hl (fun u hu => ?_) (fun s hs1 => ⟨hs1, fun u hu hus => ?_⟩), ?_⟩
  · rcases List.mem_cons.1 hu with rfl | hu
    · rw [hs']; exact ⟨hy, hx.2⟩
    · exact h.inq k pr u hz (by rw [hq]; exact List.mem_cons_of_mem _ hu)
  · rw [hq] at hu
    rcases List.mem_cons.1 hu with rfl | hu
    · exact ⟨y, List.mem_cons_self .., by rw [hs', hus]⟩
    · exact ⟨u, List.mem_cons_of_mem _ hu, hus⟩
  · have h1 := sum_set (g := leftQ) (b := pr.withQ (y :: rest)) hz
    have h2 : leftQ pr + leftP y = leftP x + leftQ (pr.withQ (y :: rest)) := by unfold leftQ Pr.withQ; rw [hq]; simp; omega
    have h3 : leftP y < leftP x := by have := hx.1.hi; have := hx.1.lo; unfold leftP; rw [hv, he]; omega
    unfold leftF; omega
theorem QInv.step {n m k : Nat} {prs : List Pr} {hs : List Bool} {pr : Pr} {x : Pd} {rest : List Pd} {z : StO} (h : QInv n m prs hs) (hz : prs[k]? = some pr) (hq : pr.q = x :: rest) (hr : StepR x rest z) : QInv n m (prs.set k (pr.withQ z.q)) (if z.fin then hs.set x.slot.toNat true else hs) ∧ leftF (prs.set k (pr.withQ z.q)) < leftF prs := by
  have hx := h.inq k pr x hz (by rw [hq]; exact List.mem_cons_self ..)
  rcases hr.2 with ⟨h1, h2, h3⟩ | ⟨h1, ws, h2, h3, h4⟩
  · rw [h1, h3, if_pos rfl]; exact h.fin hz hq
  · rw [h1, h2, if_neg (by decide)]
    refine h.on hz hq ⟨hx.1.v, by have := hx.1.lo; dsimp only; omega, h3, hx.1.w, h4⟩ rfl rfl rfl
-- (*bodegaref6.Fabric).Step: function 77
set_option maxHeartbeats 4000000 in
theorem FStep_ok (f n m : Nat) (hn : n ≤ 5) (nb cb lb pb da ha : WA) (nds : List FN) (hl : nds.length = n) (prs : List Pr) (ds : List Dn) (hs : List Bool) (hqi : QInv n m prs hs) (hdl : ds.length = m) (hdw : ∀ d, d ∈ ds → d.words.length ≤ 802816) (k : Nat) (pr : Pr) (x : Pd) (rest : List Pd) (hzp : prs[k]? = some pr) (hpq : pr.q = x :: rest) :
    Fn Tryz.prog 77 [Is (.pointer (some ⟨f, 0, none⟩)), IsCh ⟨-1, 0, (k : Nat)⟩] (fabB f n m nb cb lb pb da ha nds prs ds hs)
    (fun _ : {z : List Pr × List Dn × List Bool // QInv n m z.1 z.2.2 ∧ z.2.1.length = m ∧ (∀ d, d ∈ z.2.1 → d.words.length ≤ 802816) ∧ leftF z.1 < leftF prs} => Is (.bool true))
    (fun z => fabB f n m nb cb lb pb da ha nds z.1.1 z.1.2.1 z.1.2.2) := by
  have hzl : [slV n pb][0]? = some (slV n pb) := rfl
  have hzc : [cnOn m da ha 1 m][0]? = some (cnOn m da ha 1 m) := rfl
  have hpl := hqi.len
  have hhl := hqi.hl
  have hkp := (List.getElem?_eq_some_iff.1 hzp).1
  obtain ⟨d, hzn⟩ : ∃ d, nds[k]? = some d := ⟨_, List.getElem?_eq_getElem (by omega)⟩
  obtain ⟨hc1, hc2, hc3⟩ := hqi.cl k pr hzp
  obtain ⟨hx1, hx2, hx3⟩ := hqi.inq k pr x hzp (by rw [hpq]; exact List.mem_cons_self ..)
  have hdr : Drop1 (nds.map wbF) (wbF d) ((nds.eraseIdx k).map wbF) := drop_map hzn
  have hps := PairStep_ok n n pb nb prs k pr hzp nds k d hzn (by omega) x rest hpq hx1 hc3
  obtain ⟨s, hs0⟩ : ∃ s : Nat, (s : Int) = x.slot := ⟨x.slot.toNat, by omega⟩
  obtain ⟨d0, hzd⟩ : ∃ d0, ds[s]? = some d0 := ⟨_, List.getElem?_eq_getElem (by omega)⟩
  obtain ⟨b0, hzh⟩ : ∃ b0, hs[s]? = some b0 := ⟨_, List.getElem?_eq_getElem (by omega)⟩
  have hst : ∀ z : StO, StepR x rest z → _ := fun z hr => hqi.step hzp hpq hr
  refine Fn.enterN Tryz.func77 Tryz.ntmps77 rfl rfl ?_
  intro c hX
  refine JC_seq ?_
  refine JC_region ?_
  (refine JL_n rfl (op_box (Ev.rfl' rfl) cellsT) ?_; intro i3)
  refine JL_1 rfl (op_assign rfl) ?_
  refine JL_nil ?_
  refine JQ_then (JC_seq (JC_seq ?_))
  refine JC_region ?_
  refine JL_1 rfl (by exact op_fieldPtr (k := 0) (Ev.rfl' rfl) rfl rfl rfl rfl) ?_
  refine JL_1 rfl (by exact op_loadPtr (Ev.rfl' rfl) memT (by rfl) (by rfl) (by rfl)) ?_
  refine JL_1 rfl (op_geq (Ev.rfl' rfl) (Ev.rfl' rfl)) ?_
  refine JL_nil ?_
  refine JQ_then ?_
  refine JC_cond (Ev.rfl' rfl) (fun h1 => ?_) (fun h1 => ?_)
  · exact absurd (of_decide_eq_true h1) (by dsimp only; omega)
  refine JC_skip (JQ_then (JC_seq (JC_seq ?_)))
  refine JC_dr rfl (by kernel_rfl) ?_
  refine JD_stretch 33 (by kernel_rfl) ?_
  refine JW_1 (by exact op_fieldPtr (k := 0) (Ev.rfl' rfl) rfl rfl rfl rfl) ?_
  refine JW_1 (by exact op_loadPtr (Ev.rfl' rfl) memT (by rfl) (by rfl) (by rfl)) ?_
  refine JW_1 (op_neq (Ev.rfl' rfl) (Ev.rfl' rfl)) ?_
  refine JW_1 (op_move rfl) ?_
  (refine JW_i0 rfl rfl (fun hg => (by have hg0 := hg; (try simp at hg); exact op_fieldPtr (k := 1) evG rfl rfl rfl rfl)) ?_)
  (refine JW_i0 rfl rfl (fun hg => (by have hg0 := hg; (try simp at hg); exact op_loadPtr evG memT (by rfl) (by rfl) (by rfl))) ?_)
  (refine JW_i0 rfl rfl (fun hg => (by have hg0 := hg; (try simp at hg); exact op_lss evG evG)) ?_)
  refine JW_1 (op_or (Ev.rfl' rfl) rfl (fun h => by exact SubL.rfl')) ?_
  refine JW_1 (op_move rfl) ?_
  (refine JW_i0 rfl rfl (fun hg => (by have hg0 := hg; (try simp at hg); exact op_fieldPtr (k := 1) evG rfl rfl rfl rfl)) ?_)
  (refine JW_i0 rfl rfl (fun hg => (by have hg0 := hg; (try simp at hg); exact op_loadPtr evG memT (by rfl) (by rfl) (by rfl))) ?_)
  (refine JW_i0 rfl rfl (fun hg => (by have hg0 := hg; (try simp at hg); exact op_moveE (Ev.rfl' rfl))) ?_)
  (refine JW_i0 rfl rfl (fun hg => (by have hg0 := hg; (try simp at hg); exact op_nilCheck evG)) ?_)
  (refine JW_i0 rfl rfl (fun hg => (by have hg0 := hg; (try simp at hg); exact op_fieldPtr (k := 3) evG rfl rfl rfl rfl)) ?_)
  (refine JW_i0 rfl rfl (fun hg => (by have hg0 := hg; (try simp at hg); exact op_loadPtr evG memT (by rfl) (by rfl) (by rfl))) ?_)
  (refine JW_i0 rfl rfl (fun hg => (by have hg0 := hg; (try simp at hg); exact op_lenLit evG rfl)) ?_)
  (refine JW_i0 rfl rfl (fun hg => (by have hg0 := hg; (try simp at hg); exact op_geq evG evG)) ?_)
  refine JW_1 (op_or (Ev.rfl' rfl) rfl (fun h => by exact SubL.rfl')) ?_
  refine JW_1 (op_move rfl) ?_
  (refine JW_i0 rfl rfl (fun hg => (by have hg0 := hg; (try simp at hg); exact op_fieldPtr (k := 2) evG rfl rfl rfl rfl)) ?_)
  (refine JW_i0 rfl rfl (fun hg => (by have hg0 := hg; (try simp at hg); exact op_loadPtr evG memT (by rfl) (by rfl) (by rfl))) ?_)
  (refine JW_i0 rfl rfl (fun hg => (by have hg0 := hg; (try simp at hg); exact op_lss evG evG)) ?_)
  refine JW_1 (op_or (Ev.rfl' rfl) rfl (fun h => by exact SubL.rfl')) ?_
  refine JW_1 (op_move rfl) ?_
  (refine JW_i0 rfl rfl (fun hg => (by have hg0 := hg; (try simp at hg); exact op_fieldPtr (k := 2) evG rfl rfl rfl rfl)) ?_)
  (refine JW_i0 rfl rfl (fun hg => (by have hg0 := hg; (try simp at hg); exact op_loadPtr evG memT (by rfl) (by rfl) (by rfl))) ?_)
  (refine JW_i0 rfl rfl (fun hg => (by have hg0 := hg; (try simp at hg); exact op_moveE (Ev.rfl' rfl))) ?_)
  (refine JW_i0 rfl rfl (fun hg => (by have hg0 := hg; (try simp at hg); exact op_nilCheck evG)) ?_)
  (refine JW_i0 rfl rfl (fun hg => (by have hg0 := hg; (try simp at hg); exact op_fieldPtr (k := 1) evG rfl rfl rfl rfl)) ?_)
  (refine JW_i0 rfl rfl (fun hg => (by have hg0 := hg; (try simp at hg); exact op_loadPtr evG memT (by rfl) (by rfl) (by rfl))) ?_)
  (refine JW_i0 rfl rfl (fun hg => (by have hg0 := hg; (try simp at hg); exact op_lenLit evG rfl)) ?_)
  (refine JW_i0 rfl rfl (fun hg => (by have hg0 := hg; (try simp at hg); exact op_geq evG evG)) ?_)
  refine JW_1 (op_or (Ev.rfl' rfl) rfl (fun h => by exact SubL.rfl')) ?_
  refine ⟨rfl, ?_⟩
  refine JD_end ?_
  refine JQ_then ?_
  refine JC_cond (Ev.rfl' rfl) (fun h9 => ?_) (fun h9 => ?_)
  · exact absurd h9 (by simp; omega)
  refine JC_skip (JQ_then (JC_seq ?_))
  refine JC_dr rfl (by kernel_rfl) ?_
  refine JD_fl (its := []) ?_
  refine JF_1 0 rfl (by kernel_rfl) (op_move rfl) ?_
  refine JF_1 1 rfl (by kernel_rfl) (by exact op_nilCheck (Ev.rfl' rfl)) ?_
  refine JF_1 2 rfl (by kernel_rfl) (by exact op_fieldPtr (k := 3) (Ev.rfl' rfl) rfl rfl rfl rfl) ?_
  refine JF_1 3 rfl (by kernel_rfl) (by exact op_loadPtr (Ev.rfl' rfl) memT (by rfl) (by rfl) (by rfl)) ?_
  refine JF_1 4 rfl (by kernel_rfl) (by exact op_fieldPtr (k := 1) (Ev.rfl' rfl) rfl rfl rfl rfl) ?_
  refine JF_1 5 rfl (by kernel_rfl) (by exact op_loadPtr (Ev.rfl' rfl) memT (by rfl) (by rfl) (by rfl)) ?_
  refine JF_1 6 rfl (by kernel_rfl) (by exact op_indexBuf (k := 0) (Ev.rfl' rfl) memT (Ev.rfl' rfl) rfl rfl idxT lenT) ?_
  refine JF_1 7 rfl (by kernel_rfl) (by exact op_loadBuf0 (Ev.rfl' rfl) memT hzl rfl rfl (by rfl)) ?_
  refine JF_1 8 rfl (by kernel_rfl) (by exact op_fieldPtr (k := 2) (Ev.rfl' rfl) rfl rfl rfl rfl) ?_
  refine JF_1 9 rfl (by kernel_rfl) (by exact op_loadPtr (Ev.rfl' rfl) memT (by rfl) (by rfl) (by rfl)) ?_
  refine JF_1 10 rfl (by kernel_rfl) (by exact op_indexBuf (k := k) (Ev.rfl' rfl) memT (Ev.rfl' rfl) rfl rfl idxT lenT) ?_
  refine JF_1 11 rfl (by kernel_rfl) (op_move rfl) ?_
  refine JF_1 12 rfl (by kernel_rfl) (by exact op_nilCheck (Ev.rfl' rfl)) ?_
  refine JF_1 13 rfl (by kernel_rfl) (by exact op_fieldPtr (k := 1) (Ev.rfl' rfl) rfl rfl rfl rfl) ?_
  refine JF_1 14 rfl (by kernel_rfl) (by exact op_loadPtr (Ev.rfl' rfl) memT (by rfl) (by rfl) (by rfl)) ?_
  refine JF_1 15 rfl (by kernel_rfl) (by exact op_fieldPtr (k := 2) (Ev.rfl' rfl) rfl rfl rfl rfl) ?_
  refine JF_1 16 rfl (by kernel_rfl) (by exact op_loadPtr (Ev.rfl' rfl) memT (by rfl) (by rfl) (by rfl)) ?_
  refine JF_1 17 rfl (by kernel_rfl) (by exact op_indexBuf (k := k) (Ev.rfl' rfl) memT (Ev.rfl' rfl) rfl rfl idxT lenT) ?_
  refine JF_nf 24 rfl (by kernel_rfl) (fun _ => (op_allocN rfl nrmT rfl)) ?_
  (refine JF_b 18 [0, 1, 2, 3, 4, 5, 6, 7, 8, 9, 10, 11, 12, 13, 14, 15, 16, 17, 18] rfl (by kernel_rfl) (fun c' => by exact op_callM (Drops.cons drop1A (Drops.cons drop1A (Drops.cons drop1A (Drops.nil _)))) Tryz.call93 (hps) ⟨evS, ⟨evS, trivial⟩⟩) ?_; intro i101)
  refine JF_1 19 rfl (by kernel_rfl) (op_move rfl) ?_
  refine JF_1 20 rfl (by kernel_rfl) (op_extract (Ev.rfl' rfl) rfl) ?_
  refine JF_1f 21 rfl (by kernel_rfl) (fun _ => (op_extract (Ev.rfl' rfl) rfl)) ?_
  refine JF_1f 22 rfl (by kernel_rfl) (fun _ => (op_extract (Ev.rfl' rfl) rfl)) ?_
  refine JF_1f 23 rfl (by kernel_rfl) (fun _ => (op_extract (Ev.rfl' rfl) rfl)) ?_
  (refine JF_name 6 24 (by kernel_rfl) rfl rfl ?_; intro i6)
  refine JF_b0 25 [0, 1, 2, 3, 4, 5, 6, 7, 8, 9, 10, 11, 12, 13, 14, 15, 16, 17, 18, 19, 20, 24, 25] rfl (by kernel_rfl) (fun c' => by exact op_store (Ev.rfl' rfl) (Ev.rfl' rfl) cellsT replT (by rfl) (by rfl) (by rfl)) ?_
  refine JF_1 26 rfl (by kernel_rfl) (op_assign rfl) ?_
  refine JF_1 27 rfl (by kernel_rfl) (op_assign rfl) ?_
  refine JF_1 28 rfl (by kernel_rfl) (op_assign rfl) ?_
  refine JF_end (by kernel_rfl) rfl ?_
  refine JQ_then (JC_seq (JC_seq ?_))
  obtain ⟨z, hz⟩ := i101
  dsimp only
  have hzz := hst z hz
  refine JC_region ?_
  refine JL_1 rfl (op_move rfl) ?_
  refine JL_nil ?_
  refine JQ_then ?_
  refine JC_cond (Ev.rfl' rfl) (fun h12 => ?_) (fun h12 => ?_)
  · have hfin : z.fin = true := by simpa using h12
    have hslot : z.slot = x.slot := by rcases hz.2 with ⟨_, h, _⟩ | ⟨h, _⟩; exact h; rw [hfin] at h; cases h
    rw [hfin, if_pos rfl] at hzz
    refine JC_dr rfl (by kernel_rfl) ?_
    refine JD_fl (its := []) ?_
    refine JF_1 0 rfl (by kernel_rfl) (op_move rfl) ?_
    refine JF_1 1 rfl (by kernel_rfl) (by exact op_nilCheck (Ev.rfl' rfl)) ?_
    refine JF_1 2 rfl (by kernel_rfl) (by exact op_fieldPtr (k := 2) (Ev.rfl' rfl) rfl rfl rfl rfl) ?_
    refine JF_1 3 rfl (by kernel_rfl) (by exact op_loadPtr (Ev.rfl' rfl) memT (by rfl) (by rfl) (by rfl)) ?_
    refine JF_1 4 rfl (by kernel_rfl) (by exact op_fieldPtr (k := 1) (Ev.rfl' rfl) rfl rfl rfl rfl) ?_
    refine JF_1 5 rfl (by kernel_rfl) (by exact op_loadPtr (Ev.rfl' rfl) memT (by rfl) (by rfl) (by rfl)) ?_
    refine JF_1 6 rfl (by kernel_rfl) (by exact op_indexBuf (k := 0) (Ev.rfl' rfl) memT (Ev.rfl' rfl) rfl rfl idxT lenT) ?_
    refine JF_1 7 rfl (by kernel_rfl) (by exact op_fieldBuf (k := 3) (Ev.rfl' rfl) memT lenT rfl rfl rfl rfl) ?_
    refine JF_1 8 rfl (by kernel_rfl) (by exact op_loadBuf (Ev.rfl' rfl) memT hzc rfl rfl (by rfl)) ?_
    refine JF_1 9 rfl (by kernel_rfl) (op_move rfl) ?_
    refine JF_1 10 rfl (by kernel_rfl) (op_move rfl) ?_
    refine JF_1 11 rfl (by kernel_rfl) (by exact op_nilCheck (Ev.rfl' rfl)) ?_
    refine JF_1 12 rfl (by kernel_rfl) (by exact op_fieldPtr (k := 2) (Ev.rfl' rfl) rfl rfl rfl rfl) ?_
    refine JF_1 13 rfl (by kernel_rfl) (by exact op_loadPtr (Ev.rfl' rfl) memT (by rfl) (by rfl) (by rfl)) ?_
    refine JF_1 14 rfl (by kernel_rfl) (by exact op_fieldPtr (k := 1) (Ev.rfl' rfl) rfl rfl rfl rfl) ?_
    refine JF_1 15 rfl (by kernel_rfl) (by exact op_loadPtr (Ev.rfl' rfl) memT (by rfl) (by rfl) (by rfl)) ?_
    refine JF_1 16 rfl (by kernel_rfl) (by exact op_indexBuf (k := 0) (Ev.rfl' rfl) memT (Ev.rfl' rfl) rfl rfl idxT lenT) ?_
    refine JF_1 17 rfl (by kernel_rfl) (by exact op_fieldBuf (k := 4) (Ev.rfl' rfl) memT lenT rfl rfl rfl rfl) ?_
    refine JF_1 18 rfl (by kernel_rfl) (by exact op_loadBuf (Ev.rfl' rfl) memT hzc rfl rfl (by rfl)) ?_
    refine JF_1f 19 rfl (by kernel_rfl) (fun _ => (op_move rfl)) ?_
    refine JF_1 20 rfl (by kernel_rfl) (by exact op_loadPtrsN (n := 2) (Ev.rfl' rfl) memT (by rfl) (by rfl) (by rfl) (by rfl) nrmT) ?_
    refine JF_1 21 rfl (by kernel_rfl) (by exact op_indexBuf (k := s) (Ev.rfl' rfl) memT (Ev.rfl' rfl) rfl rfl idxT lenT) ?_
    refine JF_b0 22 [0, 1, 2, 3, 4, 5, 6, 7, 8, 9, 10, 11, 12, 13, 14, 15, 16, 17, 18, 20, 21, 22] rfl (by kernel_rfl) (fun c' => by exact op_storeBuf0 (z' := z.dn) (Ev.rfl' rfl) (Ev.rfl' rfl) cellsT replT hzd rfl (by rfl) (by rfl)) ?_
    refine JF_1 23 rfl (by kernel_rfl) (by exact op_indexBuf (k := s) (Ev.rfl' rfl) memT (Ev.rfl' rfl) rfl rfl idxT lenT) ?_
    refine JF_b0 24 [0, 1, 2, 3, 4, 5, 6, 7, 8, 9, 10, 11, 12, 13, 14, 15, 16, 17, 18, 19, 20, 21, 22, 23, 24] rfl (by kernel_rfl) (fun c' => by exact op_storeBuf0 (z' := true) (Ev.rfl' rfl) (Ev.rfl' rfl) cellsT replT hzh rfl (by rfl) (by rfl)) ?_
    refine JF_end (by kernel_rfl) rfl ?_
    refine JQ_then (JC_seq ?_)
    refine JC_region ?_
    refine JL_1 rfl (op_move rfl) ?_
    refine JL_1 rfl (op_assign rfl) ?_
    refine JL_nil ?_
    refine JQ_then (JC_ret ?_)
    first
      | (have hT : z.fin = true := hfin
         refine JQ_retP (Bs := [Is (.bool true)]) Tryz.results77 ⟨⟨_, rfl, subT⟩, trivial⟩ ⟨(prs.set k (pr.withQ z.q), ds.set s z.dn, hs.set s true), by rw [show s = x.slot.toNat by omega]; exact hzz.1, by simpa using hdl, fun d hd => (by rcases List.mem_or_eq_of_mem_set hd with hd | rfl; exact hdw d hd; exact hz.1), hzz.2⟩ SubL.rfl' ?_)
      | refine JQ_retP (Bs := [Is (.bool true)]) Tryz.results77 ⟨⟨_, rfl, subT⟩, trivial⟩ ⟨(prs.set k (pr.withQ z.q), ds, hs), hzz.1, hdl, hdw, hzz.2⟩ SubL.rfl' ?_
    iterate 7 (refine SubP.cons (by repeat (first | exact Drop1.here _ _ | apply Drop1.next)) ?_)
    exact SubP.dropI (Drop1.here _ _) (SubP.dropI (Drop1.next _ (Drop1.here _ _)) (fab_unsub hzn))
  have hfin : z.fin = false := by simpa using h12
  rw [hfin, if_neg (by decide)] at hzz
  refine JC_skip (JQ_then (JC_seq ?_))
  refine JC_region ?_
  refine JL_1 rfl (op_move rfl) ?_
  refine JL_1 rfl (op_assign rfl) ?_
  refine JL_nil ?_
  refine JQ_then (JC_ret ?_)
  first
    | (have hT : z.fin = true := hfin
       refine JQ_retP (Bs := [Is (.bool true)]) Tryz.results77 ⟨⟨_, rfl, subT⟩, trivial⟩ ⟨(prs.set k (pr.withQ z.q), ds.set s z.dn, hs.set s true), by rw [show s = x.slot.toNat by omega]; exact hzz.1, by simpa using hdl, fun d hd => (by rcases List.mem_or_eq_of_mem_set hd with hd | rfl; exact hdw d hd; exact hz.1), hzz.2⟩ SubL.rfl' ?_)
    | refine JQ_retP (Bs := [Is (.bool true)]) Tryz.results77 ⟨⟨_, rfl, subT⟩, trivial⟩ ⟨(prs.set k (pr.withQ z.q), ds, hs), hzz.1, hdl, hdw, hzz.2⟩ SubL.rfl' ?_
  iterate 7 (refine SubP.cons (by repeat (first | exact Drop1.here _ _ | apply Drop1.next)) ?_)
  exact SubP.dropI (Drop1.here _ _) (SubP.dropI (Drop1.next _ (Drop1.here _ _)) (fab_unsub hzn))
end Go.Proofs.YtfglhiciagmicaaGreat

/- Contracts: a batch is played on a fabric. Own work. -/
namespace Go.Proofs.YtfglhiciagmicaaGreat
open Go.RowKit
set_option linter.unusedVariables false
set_option linter.unusedSimpArgs false
set_option maxRecDepth 100000
theorem cntF_pos {hs : List Bool} (h : 0 < cntF hs) : ∃ s : Nat, hs[s]? = some false := by
  obtain ⟨b, hb⟩ := List.exists_mem_of_length_pos h
  obtain ⟨h1, h2⟩ := List.mem_filter.1 hb
  obtain ⟨s, hs'⟩ := List.mem_iff_getElem?.1 h1
  have : b = false := by simpa using h2
  exact ⟨s, by rw [hs', this]⟩
theorem fab_names {f n : Nat} {nb cb lb pb : WA} {nds : List FN} {prs prs' : List Pr} {cn cn' : Cn} {L : List Item} {X : List Nat} (hX : X = names (fabL f n nb cb lb pb nds cn prs))
    (hL : SubP (fabL f n nb cb lb pb nds cn' prs') L) : ∀ b, b ∈ X → b ∈ names L := by
  rw [hX]
  have key : ∀ {M L : List Item}, SubP M L → ∀ it, it ∈ M → it ∈ L := fun {M L} h => by
    induction h with
    | nil => intro it h; cases h
    | cons hd _ ih =>
      intro it h
      have hm : ∀ {A B : List Item} {x : Item}, Drop1 A x B → x ∈ A ∧ ∀ y, y ∈ B → y ∈ A := fun {A B x} h => by
        induction h with
        | here => exact ⟨List.mem_cons_self .., fun y hy => List.mem_cons_of_mem _ hy⟩
        | next z _ ih => exact ⟨List.mem_cons_of_mem _ ih.1, fun y hy => by
            rcases List.mem_cons.1 hy with rfl | hy
            · exact List.mem_cons_self ..
            · exact List.mem_cons_of_mem _ (ih.2 y hy)⟩
      rcases List.mem_cons.1 h with rfl | h
      · exact (hm hd).1
      · exact (hm hd).2 _ (ih it h)
  refine names_sub fun it hit => .inr ?_
  unfold fabL at hit
  rcases List.mem_cons.1 hit with rfl | hit
  · exact ⟨_, key hL _ (List.mem_cons_self ..), rfl⟩
  rcases List.mem_cons.1 hit with rfl | hit
  · exact ⟨_, key hL _ (List.mem_cons_of_mem _ (List.mem_cons_self ..)), rfl⟩
  rcases List.mem_cons.1 hit with rfl | hit
  · exact ⟨_, key hL _ (List.mem_cons_of_mem _ (List.mem_cons_of_mem _ (List.mem_cons_self ..))), rfl⟩
  rcases List.mem_cons.1 hit with rfl | hit
  · exact ⟨_, key hL _ (List.mem_cons_of_mem _ (List.mem_cons_of_mem _ (List.mem_cons_of_mem _ (List.mem_cons_self ..)))), rfl⟩
  rcases List.mem_cons.1 hit with rfl | hit
  · exact ⟨_, key hL _ (List.mem_cons_of_mem _ (List.mem_cons_of_mem _ (List.mem_cons_of_mem _ (List.mem_cons_of_mem _ (List.mem_cons_self ..))))), rfl⟩
  · exact ⟨it, key hL _ (List.mem_cons_of_mem _ (List.mem_cons_of_mem _ (List.mem_cons_of_mem _ (List.mem_cons_of_mem _ (List.mem_cons_of_mem _ hit))))), rfl⟩
theorem dns_start {m : Nat} : (List.replicate m dn0).length = m := by simp
-- bodegahand.Play: function 42
set_option maxHeartbeats 2000000 in
theorem Play_ok (f n : Nat) (hn1 : 1 ≤ n) (hn : n ≤ 5) (nb cb lb pb : WA) (nds : List FN) (hl : nds.length = n) (l : List GVerb) (hlw : ∀ v, v ∈ l → v.words.length ≤ 1024) :
    Fn Tryz.prog 42 [Is (.pointer (some ⟨f, 0, none⟩)), Is (.int .i64 0), IsSl tGVerb l] (fabL f n nb cb lb pb nds cn0 (pairsV 1 n))
    (fun z : {ds : List Dn // ds.length ≤ 1024 ∧ ∀ d, d ∈ ds → d.words.length ≤ 802816} => IsSl tDn z.1) (fun _ => []) := by
  refine Fn.enterN Tryz.func42 Tryz.ntmps42 rfl rfl ?_
  intro c hX
  refine JC_seq ?_
  refine JC_region ?_
  refine JL_1 rfl (op_assign rfl) ?_
  refine JL_nil ?_
  refine JQ_then (JC_seq (JC_seq ?_))
  refine JC_region ?_
  refine JL_1 rfl (op_move rfl) ?_
  refine JL_1 rfl (op_move rfl) ?_
  refine JL_1 rfl (op_move rfl) ?_
  (refine JL_s rfl (op_callA Tryz.call75 (Post_ok f n hn1 hn nb cb lb pb nds hl l hlw) ⟨evS, ⟨evS, ⟨evS, trivial⟩⟩⟩) ?_; intro i12)
  refine JL_1 rfl (op_neq (Ev.rfl' rfl) (Ev.rfl' rfl)) ?_
  refine JL_nil ?_
  refine JQ_then ?_
  obtain ⟨⟨code, da, ha, prs0⟩, hz⟩ := i12
  dsimp only at hz ⊢
  refine JC_cond (Ev.rfl' rfl) (fun h1 => ?_) (fun h1 => ?_)
  · refine JC_seq ?_
    refine JC_region ?_
    refine JL_1 rfl (op_assign rfl) ?_
    refine JL_nil ?_
    refine JQ_then (JC_ret (JQ_then_ret ?_))
    exact JQ_retP (Bs := [IsSl tDn []]) Tryz.results42 ⟨⟨_, rfl, subT⟩, trivial⟩ ⟨[], by simp, fun d hd => (by cases hd)⟩ SubL.rfl' (SubP.nil _)
  have hc0 : code = 0 := by simpa using h1
  subst hc0
  clear h1
  obtain ⟨hpi, hl0, hl1⟩ := hz rfl
  rw [if_pos rfl]
  have hq0 := hpi.toQ hl1
  obtain ⟨m, hm⟩ : ∃ m, m = l.length := ⟨_, rfl⟩
  rw [← hm] at hpi hl0 hl1 hq0 ⊢
  refine JC_skip (JQ_then (JC_seq (JC_block ?_)))
  refine JC_loopP (fun u : List Pr × List Dn × List Bool => QInv n m u.1 u.2.2 ∧ u.2.1.length = m ∧ ∀ d, d ∈ u.2.1 → d.words.length ≤ 802816) (fun u => [(0, Is (.pointer (some ⟨f, 0, none⟩))), (1, Is (.int .i64 0))]) (fun u => fabB f n m nb cb lb pb da ha nds u.1 u.2.1 u.2.2) (fun u => leftF u.1) (prs0, List.replicate m dn0, List.replicate m false) ⟨hq0, dns_start, fun d hd => (by rw [(List.mem_replicate.1 hd).2]; exact Nat.zero_le _)⟩ esubT lessM ?_
  rintro ⟨prs, ds, hs⟩ ⟨hq, hdl, hdw⟩
  dsimp only at hq hdl hdw ⊢
  have hW := Waiting_ok f n m hl1 nb cb lb da ha 1 m hs hq.hl
  have hC := Choices_ok f n hn nb cb lb pb prs hq.len
  refine JC_seq (JC_seq ?_)
  refine JC_region ?_
  refine JL_1 rfl (op_move rfl) ?_
  refine JL_1 rfl (op_move rfl) ?_
  (refine JL_s rfl (op_callM (Drops.cons drop1A (Drops.cons drop1A (Drops.cons drop1A (Drops.nil _)))) Tryz.call76 (hW) ⟨evS, ⟨evS, trivial⟩⟩) ?_; intro i16)
  refine JL_1 rfl (op_gtr (Ev.rfl' rfl) (Ev.rfl' rfl)) ?_
  refine JL_nil ?_
  refine JQ_then ?_
  refine JC_cond (Ev.rfl' rfl) (fun h3 => ?_) (fun h3 => ?_)
  · have hw : 0 < cntF hs := by have := of_decide_eq_true h3; omega
    clear h3
    obtain ⟨s, hs0⟩ := cntF_pos hw
    obtain ⟨j0, pr0, x0, hz0, hx0, _⟩ := hq.all s hs0
    refine JC_skip (JQ_then (JC_block ?_))
    refine JC_region ?_
    refine JL_1 rfl (op_move rfl) ?_
    refine JL_1 rfl (op_move rfl) ?_
    (refine JL_s rfl (op_callM (Drops.cons drop1A (Drops.cons drop1A (Drops.cons drop1A (Drops.nil _)))) Tryz.call78 (hC) ⟨evS, trivial⟩) ?_; intro i20)
    (obtain ⟨⟨cs, ca⟩, hch⟩ := i20; dsimp only; obtain ⟨c0, cs0, rfl⟩ : ∃ c0 cs0, cs = c0 :: cs0 := List.exists_cons_of_ne_nil (hch.some_ j0 pr0 (by have := (List.getElem?_eq_some_iff.1 hz0).1; rw [hq.len] at this; exact this) hz0 (List.ne_nil_of_mem hx0)); have hcz : (c0 :: cs0)[0]? = some c0 := rfl)
    refine JL_1 rfl (by exact op_indexBuf (k := 0) (Ev.rfl' rfl) memT (Ev.rfl' rfl) rfl rfl idxT lenT) ?_
    refine JL_1 rfl (by exact op_loadBufs (Ev.rfl' rfl) memT hcz rfl rfl rfl) ?_
    (obtain ⟨j, pr, x, rest, rfl, hz1, hq1⟩ := hch.all c0 (List.mem_cons_self ..); refine JL_sub (L' := fabB f n m nb cb lb pb da ha nds prs ds hs) lessM ?_)
    (refine JL_s rfl (op_callA Tryz.call77 (FStep_ok f n m hn nb cb lb pb da ha nds hl prs ds hs hq hdl hdw j pr x rest hz1 hq1) ⟨evS, ⟨evS, trivial⟩⟩) ?_; intro i23)
    refine JL_nil ?_
    refine JQ_block ?_
    exact JQ_roundP i23.1 ⟨i23.2.1, i23.2.2.1, i23.2.2.2.1⟩ i23.2.2.2.2 esubT lessM
  have hw : cntF hs = 0 := by have := of_decide_eq_false h3; omega
  clear h3
  have hT := Take_ok f n m hl1 nb cb lb da ha 1 m hs hq.hl hw
  refine JC_exit (JQ_then_exit (JQ_then_exit (JQ_hit (JQ_then (JC_seq ?_)))))
  refine JC_region ?_
  refine JL_1 rfl (op_move rfl) ?_
  refine JL_1 rfl (op_move rfl) ?_
  (refine JL_s rfl (op_callM (Drops.cons drop1A (Drops.cons drop1A (Drops.cons drop1A (Drops.nil _)))) Tryz.call79 (hT) ⟨evS, ⟨evS, trivial⟩⟩) ?_; intro i27)
  refine JL_1 rfl (op_move rfl) ?_
  refine JL_1 rfl (op_extract (Ev.rfl' rfl) rfl) ?_
  refine JL_1 rfl (op_extract (Ev.rfl' rfl) rfl) ?_
  refine JL_1 rfl (op_assign rfl) ?_
  refine JL_1 rfl (op_assign rfl) ?_
  refine JL_nil ?_
  refine JQ_then (JC_seq ?_)
  refine JC_region ?_
  refine JL_1 rfl (op_move rfl) ?_
  refine JL_1 rfl (op_assign rfl) ?_
  refine JL_nil ?_
  refine JQ_then (JC_ret ?_)
  refine JQ_freezeX (T := tDn) (xs := ds) (v := slV m da) (e := 110) replT (fab_names (cn' := cnOff 1 m) (prs' := prs) hX.1 lessM) ?_
  exact JQ_retP (Bs := [IsSl tDn ds]) Tryz.results42 ⟨⟨_, rfl, subT⟩, trivial⟩ ⟨ds, by omega, hdw⟩ SubL.rfl' (SubP.nil _)
end Go.Proofs.YtfglhiciagmicaaGreat

/- Contracts: changed replies. Own work. -/
namespace Go.Proofs.YtfglhiciagmicaaGreat
open Go.RowKit
set_option linter.unusedVariables false
set_option linter.unusedSimpArgs false
set_option maxRecDepth 100000
-- bodegahand.Altered: function 41
set_option maxHeartbeats 4000000 in
theorem Altered_ok (ds : List Dn) (hds : ds.length ≤ 1024) (hdw : ∀ d, d ∈ ds → d.words.length ≤ 802816) (l : List GAlter) (hl6 : l.length ≤ 6) (hwf : ∀ a, a ∈ l → a.wf) : Fn Tryz.prog 41 [IsSl tDn ds, Is (.int .i64 0), IsSl tGAlter l] []
    (fun z : {ds : List Dn // ds.length ≤ 1024} => IsSl tDn z.1) (fun _ => []) := by
  refine Fn.enterN Tryz.func41 Tryz.ntmps41 rfl rfl ?_
  intro c hX
  refine JC_seq ?_
  refine JC_region ?_
  refine JL_1 rfl (op_assign rfl) ?_
  refine JL_nil ?_
  refine JQ_then (JC_seq ?_)
  refine JC_region ?_
  refine JL_1 rfl (op_move rfl) ?_
  (refine JL_n rfl (op_appNil (T := tDn) (Ev.rfl' rfl) evS (by exact appT rfl rfl rfl) lenT) ?_; intro i13)
  refine JL_1 rfl (op_assign rfl) ?_
  refine JL_nil ?_
  refine JQ_then (JC_seq (JC_seq ?_))
  refine JC_region ?_
  refine JL_1 rfl (op_assign rfl) ?_
  refine JL_nil ?_
  refine JQ_then (JC_block ?_)
  refine JC_loopP (fun z : Nat × List Dn × WA => z.1 ≤ l.length ∧ z.2.1.length ≤ 1024 ∧ ∀ d, d ∈ z.2.1 → d.words.length ≤ 802816 + z.1) (fun z => [(1, Is (.int .i64 0)), (2, IsSl tGAlter l), (7, Is (slV z.2.1.length z.2.2)), (8, Is (.int .i64 (z.1 : Nat)))]) (fun z => [buf (slV z.2.1.length z.2.2) 110 tDn z.2.1]) (fun z => l.length - z.1) (0, ds, i13) ⟨Nat.zero_le _, hds, fun d hd => Nat.le_trans (hdw d hd) (Nat.le_add_right _ _)⟩ esubT lessT ?_
  rintro ⟨i, xs, xa⟩ ⟨hi, hxl, hxw⟩
  dsimp only at hi hxl hxw ⊢
  refine JC_seq (JC_seq ?_)
  refine JC_region ?_
  refine JL_1 rfl (op_move rfl) ?_
  refine JL_1 rfl (op_move rfl) ?_
  refine JL_1 rfl (by exact op_len (Ev.rfl' rfl) rfl) ?_
  refine JL_1 rfl (op_lss (Ev.rfl' rfl) (Ev.rfl' rfl)) ?_
  refine JL_nil ?_
  refine JQ_then ?_
  refine JC_cond (Ev.rfl' rfl) (fun h3 => ?_) (fun h3 => ?_)
  · have hlt : i < l.length := by have := of_decide_eq_true h3; omega
    clear h3
    obtain ⟨a, hx⟩ : ∃ a, l[i]? = some a := ⟨_, List.getElem?_eq_getElem hlt⟩
    obtain ⟨a1, a2, a3, _⟩ := hwf a (List.mem_of_getElem? hx)
    have hxp : xs.length = xs.length := rfl
    refine JC_skip (JQ_then (JC_seq (JC_block (JC_seq ?_))))
    refine JC_region ?_
    refine JL_1 rfl (op_move rfl) ?_
    refine JL_1 rfl (op_move rfl) ?_
    refine JL_1 rfl (by exact op_index (j := i) (Ev.rfl' rfl) (Ev.rfl' rfl) rfl rfl (by rfl) hx) ?_
    refine JL_1 rfl (by exact op_loadRefsN (n := 4) (Ev.rfl' rfl) rfl rfl rfl (by rfl) nrmT) ?_
    (refine JL_n rfl (op_allocN rfl nrmT rfl) ?_; intro i9)
    refine JL_s0 (op_storeN (Ev.rfl' rfl) (Ev.rfl' rfl) cellsT replT nrmT (by rfl) (by rfl) (by rfl)) ?_
    refine JL_nil ?_
    refine JQ_then (JC_seq (JC_seq ?_))
    refine JC_region ?_
    refine JL_1 rfl (by exact op_fieldPtr (k := 0) (Ev.rfl' rfl) rfl rfl rfl rfl) ?_
    refine JL_1 rfl (by exact op_loadPtr (Ev.rfl' rfl) memT (by rfl) (by rfl) (by rfl)) ?_
    refine JL_1 rfl (by ((refine op_call Tryz.call7 (PickH_ok _ _ ?_ ?_) ⟨evS, ⟨evS, trivial⟩⟩); all_goals (omega))) ?_
    refine JL_1 rfl (op_move rfl) ?_
    refine JL_1 rfl (op_neq (Ev.rfl' rfl) (Ev.rfl' rfl)) ?_
    refine JL_1 rfl (op_move rfl) ?_
    (refine JL_i0 rfl rfl rfl (fun hg => (by have hg0 := hg; (try simp at hg); exact op_moveE (Ev.rfl' rfl))) ?_)
    (refine JL_i0 rfl rfl rfl (fun hg => (by have hg0 := hg; (try simp at hg); exact op_lenLit evG rfl)) ?_)
    (refine JL_i0 rfl rfl rfl (fun hg => (by have hg0 := hg; (try simp at hg); exact op_eql evG evG)) ?_)
    refine JL_1 rfl (op_or (Ev.rfl' rfl) rfl (fun h => by exact SubL.iteT (by (rw [h]; rfl)) SubL.rfl')) ?_
    refine JL_nil ?_
    refine JQ_then ?_
    refine JC_cond (Ev.rfl' rfl) (fun h6 => ?_) (fun h6 => ?_)
    · refine JC_exit (JQ_then_exit (JQ_hit (JQ_then ?_)))
      refine JC_region ?_
      refine JL_1 rfl (op_move rfl) ?_
      refine JL_1 rfl (op_add (Ev.rfl' rfl) (Ev.rfl' rfl) wrapT) ?_
      refine JL_1 rfl (op_assign rfl) ?_
      refine JL_nil ?_
      first
        | (have := hC; exact JQ_roundP (i + 1, xs.set k ⟨code, ws⟩, xa) ⟨by dsimp only; omega, by simpa using hxl, fun e he => (by rcases List.mem_or_eq_of_mem_set he with he | rfl; exact Nat.le_trans (hxw e he) (by omega); exact hws)⟩ (by dsimp only; omega) (by (try simp only [List.length_set]); exact esubT) (by (try simp only [List.length_set]); exact lessT))
        | (have := hB; exact JQ_roundP (i + 1, xs.take (xs.length - 1), xa) ⟨by dsimp only; omega, by dsimp only; omega, fun e he => Nat.le_trans (hxw e (List.mem_of_mem_take he)) (by omega)⟩ (by dsimp only; omega) (by simp only [htl]; exact esubT) (by simp only [htl]; exact lessT))
        | exact JQ_roundP (i + 1, xs, xa) ⟨by dsimp only; omega, hxl, fun e he => Nat.le_trans (hxw e he) (by omega)⟩ (by dsimp only; omega) esubT lessT
    have hxp : 0 < xs.length := by
      simp only [Bool.or_eq_false_iff, bne_eq_false_iff_eq, beq_eq_false_iff_ne, ne_eq] at h6
      have := h6.2
      omega
    clear h6
    obtain ⟨k, hk⟩ : ∃ k : Nat, (k : Int) = a.verb % (xs.length : Nat) := ⟨(a.verb % (xs.length : Nat)).toNat, Int.toNat_of_nonneg (Int.emod_nonneg _ (by omega))⟩
    have hkn : k < xs.length := by have := Int.emod_lt_of_pos a.verb (show (0 : Int) < (xs.length : Nat) by omega); omega
    obtain ⟨d, hz⟩ : ∃ d, xs[k]? = some d := ⟨_, List.getElem?_eq_getElem hkn⟩
    have hdwl := hxw d (List.mem_of_getElem? hz)
    refine JC_skip (JQ_then (JC_seq ?_))
    refine JC_region ?_
    refine JL_1 rfl (by exact op_fieldPtr (k := 1) (Ev.rfl' rfl) rfl rfl rfl rfl) ?_
    refine JL_1 rfl (by exact op_loadPtr (Ev.rfl' rfl) memT (by rfl) (by rfl) (by rfl)) ?_
    refine JL_1 rfl (op_move rfl) ?_
    refine JL_1 rfl (by exact op_lenLit (Ev.rfl' rfl) rfl) ?_
    refine JL_1 rfl (by ((refine op_call Tryz.call7 (PickH_ok _ _ ?_ ?_) ⟨evS, ⟨evS, trivial⟩⟩); all_goals (omega))) ?_
    refine JL_1 rfl (op_assign rfl) ?_
    refine JL_nil ?_
    refine JQ_then (JC_seq ?_)
    refine JC_dr rfl (by kernel_rfl) ?_
    refine JD_fl (its := []) ?_
    refine JF_1 0 rfl (by kernel_rfl) (op_move rfl) ?_
    refine JF_1 1 rfl (by kernel_rfl) (op_move rfl) ?_
    refine JF_1 2 rfl (by kernel_rfl) (by exact op_indexBuf (k := k) (Ev.rfl' rfl) memT (Ev.rfl' rfl) rfl rfl idxT lenT) ?_
    refine JF_1 3 rfl (by kernel_rfl) (by exact op_fieldBuf (k := 0) (Ev.rfl' rfl) memT lenT rfl rfl rfl rfl) ?_
    refine JF_1 4 rfl (by kernel_rfl) (by exact op_loadBuf (Ev.rfl' rfl) memT hz rfl rfl (by rfl)) ?_
    refine JF_1 5 rfl (by kernel_rfl) (op_move rfl) ?_
    refine JF_1 6 rfl (by kernel_rfl) (op_move rfl) ?_
    refine JF_1 7 rfl (by kernel_rfl) (by exact op_indexBuf (k := k) (Ev.rfl' rfl) memT (Ev.rfl' rfl) rfl rfl idxT lenT) ?_
    refine JF_1 8 rfl (by kernel_rfl) (by exact op_fieldBuf (k := 1) (Ev.rfl' rfl) memT lenT rfl rfl rfl rfl) ?_
    refine JF_1 9 rfl (by kernel_rfl) (by exact op_loadBuf (Ev.rfl' rfl) memT hz rfl rfl (by rfl)) ?_
    refine JF_n 10 rfl (by kernel_rfl) (op_appNil (T := tU64) (Ev.rfl' rfl) evS (by exact appT rfl rfl rfl) lenT) ?_
    refine JF_n 12 rfl (by kernel_rfl) (op_allocN rfl nrmT rfl) ?_
    (refine JF_name 49 10 (by kernel_rfl) rfl rfl ?_; intro i49)
    refine JF_1 11 rfl (by kernel_rfl) (op_buildN (qs := [(0, _), (1, _)]) rfl rfl rfl rfl ⟨⟨rfl, _, (Ev.rfl' rfl), cellsT⟩, ⟨⟨rfl, _, (Ev.rfl' rfl), cellsT⟩, trivial⟩⟩ (by rfl) nrmT) ?_
    (refine JF_name 11 12 (by kernel_rfl) rfl rfl ?_; intro i11)
    refine JF_b0 13 [0, 1, 2, 3, 4, 5, 6, 7, 8, 9, 10, 11, 12, 13] rfl (by kernel_rfl) (fun c' => by exact op_store (Ev.rfl' rfl) (Ev.rfl' rfl) cellsT replT (by rfl) (by rfl) (by rfl)) ?_
    refine JF_end (by kernel_rfl) rfl ?_
    refine JQ_then (JC_seq (JC_seq ?_))
    refine JC_region ?_
    refine JL_1 rfl (by exact op_fieldPtr (k := 2) (Ev.rfl' rfl) rfl rfl rfl rfl) ?_
    refine JL_1 rfl (by exact op_loadPtr (Ev.rfl' rfl) memT (by rfl) (by rfl) (by rfl)) ?_
    refine JL_1 rfl (by ((refine op_call Tryz.call7 (PickH_ok _ _ ?_ ?_) ⟨evS, ⟨evS, trivial⟩⟩); all_goals (omega))) ?_
    refine JL_nil ?_
    refine JQ_then ?_
    refine JC_cutT (fun z : Int × List (BitVec 64) × WA => z.2.1.length ≤ 802816 + i + 1) (fun _ => [(1, Is (.int .i64 0)), (2, IsSl tGAlter l), (7, Is (slV xs.length xa)), (8, Is (.int .i64 (i : Nat))), (10, Is (.int .i64 (a.verb % (xs.length : Nat)))), (11, Is (.pointer (some ⟨i11, 0, none⟩)))]) (fun z => [blk i11 110 [Is (.int .i64 z.1), Is (slV z.2.1.length z.2.2)], buf (slV z.2.1.length z.2.2) 83 tU64 z.2.1, buf (slV xs.length xa) 110 tDn xs]) ?_ ?_
    rotate_left
    focus
      refine JC_block (JC_seq ?_)
      refine JC_region ?_
      refine JL_1 rfl (op_eql (Ev.rfl' rfl) (Ev.rfl' rfl)) ?_
      refine JL_1 rfl (op_assign rfl) ?_
      refine JL_nil ?_
      refine JQ_then ?_
      refine JC_cond (Ev.rfl' rfl) (fun h12 => ?_) (fun h12 => ?_)
      · refine JC_region ?_
        refine JL_1 rfl (op_buildN (qs := [(0, _)]) rfl rfl rfl rfl ⟨⟨rfl, _, (Ev.rfl' rfl), cellsT⟩, trivial⟩ (by rfl) nrmT) ?_
        refine JL_s0 (op_storeN (Ev.rfl' rfl) (Ev.rfl' rfl) cellsT replT nrmT (by rfl) (by rfl) (by rfl)) ?_
        refine JL_nil ?_
        refine JQ_block ?_
        refine JQ_buf0 83 tU64 ?_
        exact JQ_meetP (4, [], (none, 0)) (Nat.zero_le _) esubT lessT
      refine JC_seq ?_
      refine JC_region ?_
      refine JL_1 rfl (op_eql (Ev.rfl' rfl) (Ev.rfl' rfl)) ?_
      refine JL_1 rfl (op_assign rfl) ?_
      refine JL_nil ?_
      refine JQ_then ?_
      refine JC_cond (Ev.rfl' rfl) (fun h14 => ?_) (fun h14 => ?_)
      · refine JC_region ?_
        refine JL_1 rfl (op_buildN (qs := [(0, _)]) rfl rfl rfl rfl ⟨⟨rfl, _, (Ev.rfl' rfl), cellsT⟩, trivial⟩ (by rfl) nrmT) ?_
        refine JL_s0 (op_storeN (Ev.rfl' rfl) (Ev.rfl' rfl) cellsT replT nrmT (by rfl) (by rfl) (by rfl)) ?_
        refine JL_nil ?_
        refine JQ_block ?_
        refine JQ_buf0 83 tU64 ?_
        exact JQ_meetP (5, [], (none, 0)) (Nat.zero_le _) esubT lessT
      refine JC_seq ?_
      refine JC_region ?_
      refine JL_1 rfl (op_eql (Ev.rfl' rfl) (Ev.rfl' rfl)) ?_
      refine JL_1 rfl (op_assign rfl) ?_
      refine JL_nil ?_
      refine JQ_then ?_
      refine JC_cond (Ev.rfl' rfl) (fun h16 => ?_) (fun h16 => ?_)
      · refine JC_region ?_
        refine JL_1 rfl (by exact op_fieldPtr (k := 1) (Ev.rfl' rfl) rfl rfl rfl rfl) ?_
        refine JL_1 rfl (by exact op_loadPtr (Ev.rfl' rfl) memT (by rfl) (by rfl) (by rfl)) ?_
        refine JL_1 rfl (by exact op_fieldPtr (k := 3) (Ev.rfl' rfl) rfl rfl rfl rfl) ?_
        refine JL_1 rfl (by exact op_loadPtr (Ev.rfl' rfl) memT (by rfl) (by rfl) (by rfl)) ?_
        refine JL_1 rfl (op_buildSlice (size := 1) (qs := [(0, _)]) rfl rfl rfl ⟨⟨rfl, _, (Ev.rfl' rfl), cellsT⟩, trivial⟩ (by rfl) (by rfl)) ?_
        (refine JL_s rfl (op_app (Ev.rfl' rfl) (fun _ => replT) (by exact Ev.sub rfl (by exact SubL.row (xs := [a.w]) (by rfl) (by rfl) subsT)) (by exact appT rfl rfl rfl) lenT) ?_; intro i84)
        refine JL_1 rfl (by exact op_fieldPtr (k := 1) (Ev.rfl' rfl) rfl rfl rfl rfl) ?_
        refine JL_s0 (op_storeN (Ev.rfl' rfl) (Ev.rfl' rfl) cellsT replT nrmT (by rfl) (by rfl) (by rfl)) ?_
        refine JL_nil ?_
        refine JQ_block ?_
        exact JQ_meetP (d.code, d.words ++ [a.w], i84) (by simp; omega) esubT lessT
      refine JC_seq ?_
      refine JC_region ?_
      refine JL_1 rfl (op_eql (Ev.rfl' rfl) (Ev.rfl' rfl)) ?_
      refine JL_1 rfl (op_assign rfl) ?_
      refine JL_nil ?_
      refine JQ_then ?_
      refine JC_cond (Ev.rfl' rfl) (fun h18 => ?_) (fun h18 => ?_)
      · refine JC_seq ?_
        refine JC_region ?_
        refine JL_1 rfl (op_move rfl) ?_
        refine JL_1 rfl (op_move rfl) ?_
        refine JL_1 rfl (by exact op_lenLit (Ev.rfl' rfl) rfl) ?_
        refine JL_1 rfl (op_sub (Ev.rfl' rfl) (Ev.rfl' rfl) wrapT) ?_
        refine JL_1 rfl (op_sliceLo (h := xs.length - 1) (Ev.rfl' rfl) memT rfl rfl rfl ⟨_, _, (Ev.rfl' rfl), (show _ = ((xs.length - 1 : Nat) : Int) by omega)⟩ lenT) ?_
        refine JL_1 rfl (op_assign rfl) ?_
        refine JL_nil ?_
        refine JQ_then (JC_exit (JQ_block_miss rfl (JQ_then_exit (JQ_hit (JQ_then ?_)))))
        refine JC_cutBuf (n := xs.length) (i := xa) (h := xs.length - 1) (T := tDn) (xs := xs) replT (by omega) ?_
        have hB := h18
        have htl : (xs.take (xs.length - 1)).length = xs.length - 1 := by rw [List.length_take]; omega
        refine JC_region ?_
        refine JL_1 rfl (op_move rfl) ?_
        refine JL_1 rfl (op_add (Ev.rfl' rfl) (Ev.rfl' rfl) wrapT) ?_
        refine JL_1 rfl (op_assign rfl) ?_
        refine JL_nil ?_
        first
          | (have := hC; exact JQ_roundP (i + 1, xs.set k ⟨code, ws⟩, xa) ⟨by dsimp only; omega, by simpa using hxl, fun e he => (by rcases List.mem_or_eq_of_mem_set he with he | rfl; exact Nat.le_trans (hxw e he) (by omega); exact hws)⟩ (by dsimp only; omega) (by (try simp only [List.length_set]); exact esubT) (by (try simp only [List.length_set]); exact lessT))
          | (have := hB; exact JQ_roundP (i + 1, xs.take (xs.length - 1), xa) ⟨by dsimp only; omega, by dsimp only; omega, fun e he => Nat.le_trans (hxw e (List.mem_of_mem_take he)) (by omega)⟩ (by dsimp only; omega) (by simp only [htl]; exact esubT) (by simp only [htl]; exact lessT))
          | exact JQ_roundP (i + 1, xs, xa) ⟨by dsimp only; omega, hxl, fun e he => Nat.le_trans (hxw e he) (by omega)⟩ (by dsimp only; omega) esubT lessT
      refine JC_seq ?_
      refine JC_region ?_
      refine JL_1 rfl (op_eql (Ev.rfl' rfl) (Ev.rfl' rfl)) ?_
      refine JL_1 rfl (op_assign rfl) ?_
      refine JL_nil ?_
      refine JQ_then ?_
      refine JC_cond (Ev.rfl' rfl) (fun h20 => ?_) (fun h20 => ?_)
      · refine JC_region ?_
        refine JL_1 rfl (by exact op_fieldPtr (k := 0) (Ev.rfl' rfl) rfl rfl rfl rfl) ?_
        refine JL_s0 (op_storeN (Ev.rfl' rfl) (Ev.rfl' rfl) cellsT replT nrmT (by rfl) (by rfl) (by rfl)) ?_
        refine JL_nil ?_
        refine JQ_block ?_
        exact JQ_meetP (12, d.words, i49) (by dsimp only; omega) esubT lessT
      refine JC_seq ?_
      refine JC_region ?_
      refine JL_1 rfl (by exact op_fieldPtr (k := 1) (Ev.rfl' rfl) rfl rfl rfl rfl) ?_
      refine JL_1 rfl (by exact op_loadPtr (Ev.rfl' rfl) memT (by rfl) (by rfl) (by rfl)) ?_
      refine JL_1 rfl (by exact op_lenLit (Ev.rfl' rfl) rfl) ?_
      refine JL_1 rfl (op_gtr (Ev.rfl' rfl) (Ev.rfl' rfl)) ?_
      refine JL_nil ?_
      refine JQ_then ?_
      refine JC_cond (Ev.rfl' rfl) (fun h10 => ?_) (fun h10 => ?_)
      · have hwp : 0 < d.words.length := by have := of_decide_eq_true h10; omega
        obtain ⟨r, hr⟩ : ∃ r : Int, (UV a.w).tmod 4096 = r := ⟨_, rfl⟩
        have hr0 : 0 ≤ r ∧ r < 4096 := by rw [← hr]; exact ⟨Int.tmod_nonneg _ (UV_nonneg _), Int.tmod_lt_of_pos _ (by decide)⟩
        obtain ⟨k2, hk2⟩ : ∃ k2 : Nat, (k2 : Int) = r % (d.words.length : Nat) := ⟨(r % (d.words.length : Nat)).toNat, Int.toNat_of_nonneg (Int.emod_nonneg _ (by omega))⟩
        have hk2n : k2 < d.words.length := by have := Int.emod_lt_of_pos r (show (0 : Int) < (d.words.length : Nat) by omega); omega
        obtain ⟨u, hz2⟩ : ∃ u, d.words[k2]? = some u := ⟨_, List.getElem?_eq_getElem hk2n⟩
        have hxp0 := hxp
        have hxp := hwp
        refine JC_dr rfl (by kernel_rfl) ?_
        refine JD_fl (its := []) ?_
        refine JF_1 0 rfl (by kernel_rfl) (by exact op_fieldPtr (k := 1) (Ev.rfl' rfl) rfl rfl rfl rfl) ?_
        refine JF_1 1 rfl (by kernel_rfl) (by exact op_loadPtr (Ev.rfl' rfl) memT (by rfl) (by rfl) (by rfl)) ?_
        refine JF_1 2 rfl (by kernel_rfl) (by exact op_fieldPtr (k := 3) (Ev.rfl' rfl) rfl rfl rfl rfl) ?_
        refine JF_1 3 rfl (by kernel_rfl) (by exact op_loadPtr (Ev.rfl' rfl) memT (by rfl) (by rfl) (by rfl)) ?_
        refine JF_1 4 rfl (by kernel_rfl) (op_rem (Ev.rfl' rfl) (Ev.rfl' rfl) (by decide) hr) ?_
        refine JF_1 5 rfl (by kernel_rfl) (op_conv (Ev.rfl' rfl) rfl rfl (wI64 (by omega))) ?_
        refine JF_1 6 rfl (by kernel_rfl) (by exact op_fieldPtr (k := 1) (Ev.rfl' rfl) rfl rfl rfl rfl) ?_
        refine JF_1 7 rfl (by kernel_rfl) (by exact op_loadPtr (Ev.rfl' rfl) memT (by rfl) (by rfl) (by rfl)) ?_
        refine JF_1 8 rfl (by kernel_rfl) (by exact op_lenLit (Ev.rfl' rfl) rfl) ?_
        refine JF_1 9 rfl (by kernel_rfl) (by ((refine op_call Tryz.call7 (PickH_ok _ _ ?_ ?_) ⟨evS, ⟨evS, trivial⟩⟩); all_goals (omega))) ?_
        refine JF_1 10 rfl (by kernel_rfl) (by exact op_fieldPtr (k := 3) (Ev.rfl' rfl) rfl rfl rfl rfl) ?_
        refine JF_1 11 rfl (by kernel_rfl) (by exact op_loadPtr (Ev.rfl' rfl) memT (by rfl) (by rfl) (by rfl)) ?_
        refine JF_1 12 rfl (by kernel_rfl) (by exact op_indexBuf (k := k2) (Ev.rfl' rfl) memT (Ev.rfl' rfl) rfl rfl idxT lenT) ?_
        refine JF_b0 13 [0, 1, 2, 3, 4, 5, 6, 7, 8, 9, 10, 11, 12, 13] rfl (by kernel_rfl) (fun c' => by exact op_storeBuf0 (z' := a.w) (Ev.rfl' rfl) (Ev.rfl' rfl) cellsT replT hz2 rfl (by rfl) (by rfl)) ?_
        refine JF_end (by kernel_rfl) rfl ?_
        refine JQ_block ?_
        exact JQ_meetP (d.code, d.words.set k2 a.w, i49) (by simp; omega) (by (try simp only [List.length_set]); exact esubT) (by (try simp only [List.length_set]); exact lessT)
      refine JC_skip (JQ_block ?_)
      exact JQ_meetP (d.code, d.words, i49) (by dsimp only; omega) esubT lessT
    rintro ⟨code, ws, wa⟩ hws
    dsimp only at hws ⊢
    refine JC_freezeX (T := tU64) (xs := ws) replT (namesT hX) ?_
    refine JC_blkSub (b := i11) (As' := [Is (.int .i64 code), IsSl tU64 ws]) replT subsT ?_
    have hC := hws
    refine JC_region ?_
    refine JL_1 rfl (op_move rfl) ?_
    refine JL_1 rfl (op_move rfl) ?_
    refine JL_1 rfl (by exact op_loadPtrsN (n := 2) (Ev.rfl' rfl) memT (by rfl) (by rfl) (by rfl) (by rfl) nrmT) ?_
    refine JL_1 rfl (by exact op_indexBuf (k := k) (Ev.rfl' rfl) memT (Ev.rfl' rfl) rfl rfl idxT lenT) ?_
    refine JL_s0 (by exact op_storeBuf0 (z' := (⟨code, ws⟩ : Dn)) (Ev.rfl' rfl) (Ev.rfl' rfl) cellsT replT hz rfl (by rfl) (by rfl)) ?_
    refine JL_nil ?_
    refine JQ_block (JQ_then ?_)
    refine JC_region ?_
    refine JL_1 rfl (op_move rfl) ?_
    refine JL_1 rfl (op_add (Ev.rfl' rfl) (Ev.rfl' rfl) wrapT) ?_
    refine JL_1 rfl (op_assign rfl) ?_
    refine JL_nil ?_
    first
      | (have := hC; exact JQ_roundP (i + 1, xs.set k ⟨code, ws⟩, xa) ⟨by dsimp only; omega, by simpa using hxl, fun e he => (by rcases List.mem_or_eq_of_mem_set he with he | rfl; exact Nat.le_trans (hxw e he) (by omega); exact hws)⟩ (by dsimp only; omega) (by (try simp only [List.length_set]); exact esubT) (by (try simp only [List.length_set]); exact lessT))
      | (have := hB; exact JQ_roundP (i + 1, xs.take (xs.length - 1), xa) ⟨by dsimp only; omega, by dsimp only; omega, fun e he => Nat.le_trans (hxw e (List.mem_of_mem_take he)) (by omega)⟩ (by dsimp only; omega) (by simp only [htl]; exact esubT) (by simp only [htl]; exact lessT))
      | exact JQ_roundP (i + 1, xs, xa) ⟨by dsimp only; omega, hxl, fun e he => Nat.le_trans (hxw e he) (by omega)⟩ (by dsimp only; omega) esubT lessT
  clear h3
  refine JC_exit (JQ_then_exit (JQ_then_exit (JQ_hit (JQ_then (JC_seq ?_)))))
  refine JC_region ?_
  refine JL_1 rfl (op_move rfl) ?_
  refine JL_1 rfl (op_assign rfl) ?_
  refine JL_nil ?_
  refine JQ_then (JC_ret ?_)
  refine JQ_freezeX (T := tDn) (xs := xs) replT (namesT hX) ?_
  exact JQ_retP (Bs := [IsSl tDn xs]) Tryz.results41 ⟨⟨_, rfl, subT⟩, trivial⟩ ⟨xs, hxl⟩ SubL.rfl' lessT
end Go.Proofs.YtfglhiciagmicaaGreat
