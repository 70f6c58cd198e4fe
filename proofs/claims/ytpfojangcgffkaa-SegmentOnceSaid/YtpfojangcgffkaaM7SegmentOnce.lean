/- Texts of this claim, laid together (part 7): walks of functions, what they compute, and plain laws of it. Own work. -/
import Derived.Test.YtpfojangcgffkaaM6SegmentOnce
/- The law SegmentOnce: its walk. Own work. -/
namespace Go.Proofs.Ytpfojangcgffkaa
open Go.RowKit
set_option linter.unusedVariables false
set_option linter.unusedSimpArgs false
set_option maxRecDepth 100000
-- bodegaheap.Size: function 37
theorem SizeO_ok (n : Int) : FnP Try.prog 37 [Is (.int .i64 n)] (Is (.int .i64 (96 + ((8 + 16 * (1 + (n % 5).toNat) : Nat) : Int)))) := by
  have e : (96 + ((8 + 16 * (1 + (n % 5).toNat) : Nat) : Int)) = 104 + 16 * (1 + n % 5) := by omega
  rw [e]
  refine FnP.enter Try.func37 Try.ntmps37 rfl rfl ?_
  intro c hX
  refine JC_seq ?_
  refine JC_region ?_
  refine JL_1 rfl (op_assign rfl) ?_
  refine JL_nil ?_
  refine JQ_then (JC_seq ?_)
  refine JC_region ?_
  refine JL_1 rfl (op_move rfl) ?_
  refine JL_1 rfl (by first | ((refine op_call Try.call14 (PickH_ok _ _ ?_ ?_) ⟨evS, ⟨evS, trivial⟩⟩); all_goals (first | omega))) ?_
  refine JL_1 rfl (op_add (Ev.rfl' rfl) (Ev.rfl' rfl) wrapT) ?_
  refine JL_1 rfl (op_mul (Ev.rfl' rfl) (Ev.rfl' rfl) wrapT) ?_
  refine JL_1 rfl (op_add (Ev.rfl' rfl) (Ev.rfl' rfl) wrapT) ?_
  refine JL_1 rfl (op_assign rfl) ?_
  refine JL_nil ?_
  refine JQ_then (JC_ret ?_)
  refine JQ_ret1 Try.results37 rfl () (SubL.eq ?_) (List.nil_sublist _)
  rfl
-- bodegalaw20.SegmentOnce: function 8
set_option maxHeartbeats 1000000 in
theorem SegmentOnce_ok (size : Int) (l : List Mv) : FnP Try.prog 8 [Is (.int .i64 size), IsSl tMv l] (Is (.bool true)) := by
  obtain ⟨n, hn0⟩ : ∃ n : Nat, 1 + (size % 5).toNat = n := ⟨_, rfl⟩
  have hsize := SizeO_ok size
  rw [hn0] at hsize
  have hn : 1 ≤ n ∧ n ≤ 5 := by omega
  have hlines : 96 + ((8 + 16 * n : Nat) : Int) = 104 + 16 * (n : Int) := by omega
  have hsz : sizeB (104 + 16 * (n : Int)) = true := by unfold sizeB; simp; omega
  have hcount : FnP Try.prog 29 [Is (.int .i64 (96 + ((8 + 16 * n : Nat) : Int)))] (Is (.int .i64 (n : Nat))) := by
    have h := CountN_ok (104 + 16 * (n : Int))
    rw [count_n (by omega)] at h
    rw [hlines]
    exact h
  clear hn0
  refine FnP.enter Try.func8 Try.ntmps8 rfl rfl ?_
  intro c hX
  refine JC_len (t := 1) rfl (fun hlen => ?_)
  refine JC_seq ?_
  refine JC_region ?_
  refine JL_1 rfl (op_assign rfl) ?_
  refine JL_nil ?_
  refine JQ_then (JC_seq (JC_seq ?_))
  refine JC_region ?_
  refine JL_1 rfl (op_move rfl) ?_
  refine JL_1 rfl (by first | exact op_len (Ev.rfl' rfl) rfl | exact op_lenLit (Ev.rfl' rfl) rfl) ?_
  refine JL_1 rfl (op_gtr (Ev.rfl' rfl) (Ev.rfl' rfl)) ?_
  refine JL_1 rfl (op_move rfl) ?_
  (first | refine JL_i0 rfl rfl rfl (fun hg => (by have hg0 := hg; (try simp at hg); exact op_call Try.call19 (awake_ok) trivial)) ?_ | refine JL_i rfl rfl rfl (fun hp hg => (by have hpg := Bool.and_eq_true_iff.2 ⟨hp, hg⟩; have hg0 := hg; (try simp at hg); exact op_call Try.call19 (awake_ok) trivial)) ?_)
  (first | refine JL_i0 rfl rfl rfl (fun hg => (by have hg0 := hg; (try simp at hg); exact op_not evG)) ?_ | refine JL_i rfl rfl rfl (fun hp hg => (by have hpg := Bool.and_eq_true_iff.2 ⟨hp, hg⟩; have hg0 := hg; (try simp at hg); exact op_not evG)) ?_)
  refine JL_1 rfl (op_or (Ev.rfl' rfl) rfl (fun h => by first | exact SubL.rfl' | exact SubL.iteT (by first | (rw [h]; rfl) | (simp_all; done)) SubL.rfl')) ?_
  refine JL_nil ?_
  refine JQ_then ?_
  refine JC_cond (Ev.rfl' rfl) (fun h1 => ?_) (fun h1 => ?_)
  · have hl : decide ((l.length : Int) > 40) = true := by simpa using h1
    refine JC_seq ?_
    refine JC_region ?_
    refine JL_1 rfl (op_move rfl) ?_
    refine JL_1 rfl (by first | exact op_len (Ev.rfl' rfl) rfl | exact op_lenLit (Ev.rfl' rfl) rfl) ?_
    refine JL_1 rfl (op_gtr (Ev.rfl' rfl) (Ev.rfl' rfl)) ?_
    refine JL_1 rfl (op_assign rfl) ?_
    refine JL_nil ?_
    refine JQ_then (JC_ret (JQ_then_ret ?_))
    refine JQ_ret1 Try.results8 rfl () (SubL.eq ?_) (List.nil_sublist _)
    rw [hl]
  have hl : l.length ≤ 40 := by simp at h1; omega
  clear h1
  refine JC_skip (JQ_then (JC_seq ?_))
  refine JC_region ?_
  refine JL_1 rfl (op_move rfl) ?_
  refine JL_1 rfl (op_call Try.call37 (hsize) ⟨evS, trivial⟩) ?_
  (refine JL_s rfl (by first | ((refine op_callN Try.call36 (New_ok (8 + 16 * n) ?_) ⟨evS, trivial⟩); all_goals (first | omega))) ?_; intro i45)
  refine JL_1 rfl (op_assign rfl) ?_
  refine JL_nil ?_
  refine JQ_then (JC_seq ?_)
  obtain ⟨b, s0⟩ := i45
  dsimp only
  refine JC_region ?_
  refine JL_1 rfl (op_assign rfl) ?_
  refine JL_nil ?_
  refine JQ_then (JC_seq ?_)
  refine JC_buf0 100 tPt ?_
  refine JC_region ?_
  (refine JL_n rfl (op_makeRow tI64 (0 : Int) (n := 12) (Ev.rfl' rfl) (Ev.rfl' rfl) rfl rfl rfl rfl rfl (by rfl) (by first | decide | omega)) ?_; intro i46)
  refine JL_1 rfl (op_assign rfl) ?_
  refine JL_nil ?_
  refine JQ_then (JC_seq (JC_seq ?_))
  refine JC_region ?_
  refine JL_1 rfl (op_assign rfl) ?_
  refine JL_nil ?_
  refine JQ_then (JC_block ?_)
  refine JC_loopP (fun z : (Nat × List Int × List Pt × List Pg) × (Option Addr × Nat) => z.1.1 ≤ l.length ∧ On n z.1.1 z.1.2.1 z.1.2.2.1 z.1.2.2.2 ∧ z.1.2.2.1.length ≤ 4 * z.1.1) (fun z => [(1, IsSl tMv l), (5, Is (.pointer (some ⟨b, 0, none⟩))), (6, Is (slV z.1.2.2.1.length z.2)), (7, Is (slV 12 (some ⟨i46, 0, none⟩, 12))), (8, Is (.int .i64 (z.1.1 : Nat)))]) (fun z => [blk b 80 (heapC (slV (8 + 16 * n) s0) (96 + ((8 + 16 * n : Nat) : Int))), buf (slV (8 + 16 * n) s0) 25 tPg z.1.2.2.2, buf (slV 12 (some ⟨i46, 0, none⟩, 12)) 3 tI64 z.1.2.1, buf (slV (z.1.2.2.1).length z.2) 100 tPt z.1.2.2.1]) (fun z => l.length - z.1.1) ((0, List.replicate 12 0, [], newL (8 + 16 * n)), (none, 0)) ⟨Nat.zero_le _, on_new (by omega), Nat.zero_le _⟩ esubT lessT ?_
  rintro ⟨⟨i, ow, out, H⟩, a⟩ ⟨hi, hO, hol⟩
  dsimp only at hi hO hol ⊢
  refine JC_seq (JC_seq ?_)
  refine JC_region ?_
  refine JL_1 rfl (op_move rfl) ?_
  refine JL_1 rfl (op_move rfl) ?_
  refine JL_1 rfl (by first | exact op_len (Ev.rfl' rfl) rfl | exact op_lenLit (Ev.rfl' rfl) rfl) ?_
  refine JL_1 rfl (op_lss (Ev.rfl' rfl) (Ev.rfl' rfl)) ?_
  refine JL_nil ?_
  refine JQ_then ?_
  refine JC_cond (Ev.rfl' rfl) (fun h7 => ?_) (fun h7 => ?_)
  · have hlt : i < l.length := by have := of_decide_eq_true h7; omega
    clear h7
    obtain ⟨mv, hz⟩ : ∃ z, l[i]? = some z := ⟨l[i], List.getElem?_eq_getElem hlt⟩
    have howl := hO.owl
    obtain ⟨cl, hcl0⟩ : ∃ c : Nat, mv.client % 3 = (c : Int) := ⟨(mv.client % 3).toNat, by omega⟩
    have hc : cl < 3 := by omega
    have hpick := PickH_ok mv.client 3 (by omega) (by omega)
    rw [hcl0] at hpick
    refine JC_skip (JQ_then (JC_seq (JC_block (JC_seq ?_))))
    refine JC_region ?_
    refine JL_1 rfl (op_move rfl) ?_
    refine JL_1 rfl (op_move rfl) ?_
    refine JL_1 rfl (by first | exact op_index (j := _) (Ev.rfl' rfl) (Ev.rfl' rfl) rfl rfl (by first | rfl | omega) hz | exact op_index (j := _) (Ev.rfl' rfl) (Ev.rfl' rfl) rfl rfl (by first | rfl | omega) (by assumption)) ?_
    refine JL_1 rfl (by first | exact op_fieldPtr (k := 0) (Ev.rfl' rfl) rfl rfl rfl rfl | exact op_fieldRefN (k := 0) (Ev.rfl' rfl) rfl rfl rfl rfl nrmT) ?_
    refine JL_1 rfl (by first | exact op_loadRef (Ev.rfl' rfl) rfl rfl rfl | exact op_loadPtr (Ev.rfl' rfl) memT (by rfl) (by rfl) (by rfl)) ?_
    refine JL_1 rfl (op_call Try.call14 (hpick) ⟨evS, ⟨evS, trivial⟩⟩) ?_
    refine JL_1 rfl (op_assign rfl) ?_
    refine JL_nil ?_
    refine JQ_then (JC_seq (JC_seq ?_))
    refine JC_region ?_
    refine JL_1 rfl (op_move rfl) ?_
    refine JL_1 rfl (op_move rfl) ?_
    refine JL_1 rfl (by first | exact op_index (j := _) (Ev.rfl' rfl) (Ev.rfl' rfl) rfl rfl (by first | rfl | omega) hz | exact op_index (j := _) (Ev.rfl' rfl) (Ev.rfl' rfl) rfl rfl (by first | rfl | omega) (by assumption)) ?_
    refine JL_1 rfl (by first | exact op_fieldPtr (k := 2) (Ev.rfl' rfl) rfl rfl rfl rfl | exact op_fieldRefN (k := 2) (Ev.rfl' rfl) rfl rfl rfl rfl nrmT) ?_
    refine JL_1 rfl (by first | exact op_loadRef (Ev.rfl' rfl) rfl rfl rfl | exact op_loadPtr (Ev.rfl' rfl) memT (by rfl) (by rfl) (by rfl)) ?_
    refine JL_1 rfl (op_move rfl) ?_
    (first | refine JL_i0 rfl rfl rfl (fun hg => (by have hg0 := hg; (try simp at hg); first | exact op_moveE (Ev.sub rfl (SubL.iteT (by first | assumption | (simp; done) | (simp; omega) | (simp_all; done)) SubL.rfl')) | exact op_moveE (Ev.rfl' rfl))) ?_ | refine JL_i rfl rfl rfl (fun hp hg => (by have hpg := Bool.and_eq_true_iff.2 ⟨hp, hg⟩; have hg0 := hg; (try simp at hg); first | exact op_moveE (Ev.sub rfl (SubL.iteT (by first | assumption | (simp; done) | (simp; omega) | (simp_all; done)) SubL.rfl')) | exact op_moveE (Ev.rfl' rfl))) ?_)
    (first | refine JL_i0 rfl rfl rfl (fun hg => (by have hg0 := hg; (try simp at hg); first | exact op_len evG rfl | exact op_lenLit evG rfl)) ?_ | refine JL_i rfl rfl rfl (fun hp hg => (by have hpg := Bool.and_eq_true_iff.2 ⟨hp, hg⟩; have hg0 := hg; (try simp at hg); first | exact op_len evG rfl | exact op_lenLit evG rfl)) ?_)
    (first | refine JL_i0 rfl rfl rfl (fun hg => (by have hg0 := hg; (try simp at hg); exact op_gtr evG evG)) ?_ | refine JL_i rfl rfl rfl (fun hp hg => (by have hpg := Bool.and_eq_true_iff.2 ⟨hp, hg⟩; have hg0 := hg; (try simp at hg); exact op_gtr evG evG)) ?_)
    refine JL_1 rfl (op_and (Ev.rfl' rfl) rfl (fun h => by first | exact SubL.rfl' | exact SubL.iteT (by first | (rw [h]; rfl) | (simp_all; done)) SubL.rfl')) ?_
    refine JL_nil ?_
    refine JQ_then ?_
    refine JC_cond (Ev.rfl' rfl) (fun h10 => ?_) (fun h10 => ?_)
    · have hol1 : 0 < out.length := by simp at h10; omega
      clear h10
      obtain ⟨k, hk0⟩ : ∃ k : Nat, mv.at_ % (out.length : Int) = (k : Int) := ⟨(mv.at_ % (out.length : Int)).toNat, by have := Int.emod_nonneg mv.at_ (show (out.length : Int) ≠ 0 by omega); omega⟩
      have hk : k < out.length := by have := Int.emod_lt_of_pos mv.at_ (show (0 : Int) < out.length by omega); omega
      have hpk := PickH_ok mv.at_ (out.length : Int) (by omega) (by omega)
      rw [hk0] at hpk
      obtain ⟨p, hp⟩ : ∃ z, out[k]? = some z := ⟨out[k], List.getElem?_eq_getElem hk⟩
      obtain ⟨s, j, q, ph, w, wh, o, u, f1, f2, f3, f4, f5, f6, f7, f8, f9, f10, f11, f12, f13, f14, f15, hO'⟩ := on_free hO (by omega) (by omega) hp
      have hfree := Free1_ok H (104 + 16 * (n : Int)) p s j q ph w wh o u hsz f1 f2 f3 f4 f5 f6 f7 f8 f9 f10 f11 f12 f13 f14
      rw [← hlines] at hfree
      have hcom := Commit_ok b (8 + 16 * n) s0 (96 + ((8 + 16 * n : Nat) : Int)) H [wh, w] hO.len (by omega) (fun v hw' => by
        rcases List.mem_cons.1 hw' with h | h
        · subst h; omega
        · rcases List.mem_cons.1 h with h | h
          · subst h; omega
          · cases h)
      refine JC_seq ?_
      refine JC_region ?_
      refine JL_1 rfl (op_move rfl) ?_
      refine JL_1 rfl (op_move rfl) ?_
      refine JL_1 rfl (by first | exact op_index (j := _) (Ev.rfl' rfl) (Ev.rfl' rfl) rfl rfl (by first | rfl | omega) hz | exact op_index (j := _) (Ev.rfl' rfl) (Ev.rfl' rfl) rfl rfl (by first | rfl | omega) (by assumption)) ?_
      refine JL_1 rfl (by first | exact op_fieldPtr (k := 3) (Ev.rfl' rfl) rfl rfl rfl rfl | exact op_fieldRefN (k := 3) (Ev.rfl' rfl) rfl rfl rfl rfl nrmT) ?_
      refine JL_1 rfl (by first | exact op_loadRef (Ev.rfl' rfl) rfl rfl rfl | exact op_loadPtr (Ev.rfl' rfl) memT (by rfl) (by rfl) (by rfl)) ?_
      refine JL_1 rfl (op_move rfl) ?_
      refine JL_1 rfl (by first | exact op_len (Ev.rfl' rfl) rfl | exact op_lenLit (Ev.rfl' rfl) rfl) ?_
      refine JL_1 rfl (op_call Try.call14 (hpk) ⟨evS, ⟨evS, trivial⟩⟩) ?_
      refine JL_1 rfl (op_assign rfl) ?_
      refine JL_nil ?_
      refine JQ_then (JC_seq ?_)
      refine JC_dr rfl (by kernel_rfl) ?_
      refine JD_stretch 14 (by kernel_rfl) ?_
      refine JW_1 (op_move rfl) ?_
      refine JW_1 (by first | exact op_nilCheck (Ev.rfl' rfl) | exact op_nilRef (Ev.rfl' rfl) | exact op_nilBuf (Ev.rfl' rfl) memT lenT) ?_
      refine JW_1 (by first | exact op_fieldPtr (k := 1) (Ev.rfl' rfl) rfl rfl rfl rfl | exact op_fieldRefN (k := 1) (Ev.rfl' rfl) rfl rfl rfl rfl nrmT | exact op_fieldBuf (k := 1) (Ev.rfl' rfl) memT lenT rfl rfl rfl rfl) ?_
      refine JW_1 (by first | exact op_loadBuf (Ev.rfl' rfl) memT hp rfl rfl (by rfl) | exact op_loadBuf0 (Ev.rfl' rfl) memT hp rfl rfl (by rfl) | exact op_loadRef (Ev.rfl' rfl) rfl rfl rfl | exact op_loadPtr (Ev.rfl' rfl) memT (by rfl) (by rfl) (by rfl)) ?_
      refine JW_1 (op_move rfl) ?_
      refine JW_1 (op_move rfl) ?_
      refine JW_1 (by first | exact op_indexBuf (k := k) (Ev.rfl' rfl) memT (Ev.rfl' rfl) rfl rfl idxT lenT | exact op_index (j := _) (Ev.rfl' rfl) (Ev.rfl' rfl) rfl rfl (by first | rfl | omega) hz | exact op_index (j := _) (Ev.rfl' rfl) (Ev.rfl' rfl) rfl rfl (by first | rfl | omega) (by assumption)) ?_
      refine JW_1 (by first | exact op_fieldPtr (k := 0) (Ev.rfl' rfl) rfl rfl rfl rfl | exact op_fieldRefN (k := 0) (Ev.rfl' rfl) rfl rfl rfl rfl nrmT | exact op_fieldBuf (k := 0) (Ev.rfl' rfl) memT lenT rfl rfl rfl rfl) ?_
      refine JW_1 (by first | exact op_loadBufs (Ev.rfl' rfl) memT hp rfl rfl rfl | exact op_loadRefsN (n := 2) (Ev.rfl' rfl) rfl rfl rfl (by rfl) nrmT | exact op_loadPtrsN (n := 2) (Ev.rfl' rfl) memT (by rfl) (by rfl) (by rfl) (by rfl) nrmT) ?_
      refine JW_1 (op_buildSlice (size := 2) (qs := [(0, _)]) rfl rfl rfl ⟨⟨rfl, _, (Ev.rfl' rfl), cellsT⟩, trivial⟩ (by rfl) (by rfl)) ?_
      refine JW_1 (op_move rfl) ?_
      refine JW_1 (by first | exact op_nilCheck (Ev.rfl' rfl) | exact op_nilRef (Ev.rfl' rfl) | exact op_nilBuf (Ev.rfl' rfl) memT lenT) ?_
      refine JW_1 (by first | exact op_fieldPtr (k := 0) (Ev.rfl' rfl) rfl rfl rfl rfl | exact op_fieldRefN (k := 0) (Ev.rfl' rfl) rfl rfl rfl rfl nrmT | exact op_fieldBuf (k := 0) (Ev.rfl' rfl) memT lenT rfl rfl rfl rfl) ?_
      refine JW_1 (by first | exact op_loadBuf (Ev.rfl' rfl) memT hp rfl rfl (by rfl) | exact op_loadBuf0 (Ev.rfl' rfl) memT hp rfl rfl (by rfl) | exact op_loadRef (Ev.rfl' rfl) rfl rfl rfl | exact op_loadPtr (Ev.rfl' rfl) memT (by rfl) (by rfl) (by rfl)) ?_
      refine ⟨rfl, ?_⟩
      (refine JD_s (by kernel_rfl) rfl rfl (op_callLO (by (try simp only [List.nil_append, List.cons_append]); exact lendT) Try.call42 (hfree) ⟨evS, ⟨evS, ⟨evS, trivial⟩⟩⟩ (fun _ => pure_tup ⟨pure_top, pure_is, pure_is, pure_is, trivial⟩) (fun _ => ⟨pureI_buf pure_pg, trivial⟩)) ?_; intro i92)
      refine JD_stretch 9 (by kernel_rfl) ?_
      refine JW_1 (op_move rfl) ?_
      refine JW_1 (op_extract (Ev.rfl' rfl) rfl) ?_
      refine JW_1 (op_extract (Ev.rfl' rfl) rfl) ?_
      refine JW_1 (op_extract (Ev.rfl' rfl) rfl) ?_
      refine JW_1 (op_extract (Ev.rfl' rfl) rfl) ?_
      refine JW_1 (op_assign rfl) ?_
      refine JW_1 (op_assign rfl) ?_
      refine JW_1 (op_assign rfl) ?_
      refine JW_1 (op_assign rfl) ?_
      refine ⟨rfl, ?_⟩
      refine JD_end ?_
      refine JQ_then (JC_seq (JC_seq ?_))
      refine JC_region ?_
      refine JL_1 rfl (op_move rfl) ?_
      refine JL_1 rfl (op_not (Ev.rfl' rfl)) ?_
      refine JL_1 rfl (op_move rfl) ?_
      (first | refine JL_i0 rfl rfl rfl (fun hg => (by have hg0 := hg; (try simp at hg); first | exact op_moveE (Ev.sub rfl (SubL.iteT (by first | assumption | (simp; done) | (simp; omega) | (simp_all; done)) SubL.rfl')) | exact op_moveE (Ev.rfl' rfl))) ?_ | refine JL_i rfl rfl rfl (fun hp hg => (by have hpg := Bool.and_eq_true_iff.2 ⟨hp, hg⟩; have hg0 := hg; (try simp at hg); first | exact op_moveE (Ev.sub rfl (SubL.iteT (by first | assumption | (simp; done) | (simp; omega) | (simp_all; done)) SubL.rfl')) | exact op_moveE (Ev.rfl' rfl))) ?_)
      (first | refine JL_i0 rfl rfl rfl (fun hg => (by have hg0 := hg; (try simp at hg); exact op_neq evG evG)) ?_ | refine JL_i rfl rfl rfl (fun hp hg => (by have hpg := Bool.and_eq_true_iff.2 ⟨hp, hg⟩; have hg0 := hg; (try simp at hg); exact op_neq evG evG)) ?_)
      refine JL_1 rfl (op_or (Ev.rfl' rfl) rfl (fun h => by first | exact SubL.rfl' | exact SubL.iteT (by first | (rw [h]; rfl) | (simp_all; done)) SubL.rfl')) ?_
      refine JL_nil ?_
      refine JQ_then ?_
      refine JC_cond (Ev.rfl' rfl) (fun h13 => ?_) (fun h13 => ?_)
      · exact absurd h13 (by simp)
      clear h13
      refine JC_freeze hX (v := slV 2 i92) replT ?_
      refine JC_skip (JQ_then (JC_seq ?_))
      refine JC_region ?_
      refine JL_1 rfl (op_move rfl) ?_
      refine JL_1 rfl (op_move rfl) ?_
      (refine JL_s rfl (op_callT2 drop1T drop1T Try.call39 (hcom) ⟨evS, ⟨evS, trivial⟩⟩) ?_; intro i105)
      refine JL_nil ?_
      refine JQ_then (JC_seq ?_)
      refine JC_freeze hX (v := slV out.length a) replT ?_
      refine JC_set 6 (IsSl tPt out) rfl (SubL.fact memT) ?_
      have hdl : (out.drop (k + 1)).length ≤ 200 := by rw [List.length_drop]; omega
      have htl : (out.take k).length ≤ 200 := by rw [List.length_take]; omega
      have hnl : (out.take k ++ out.drop (k + 1)).length ≤ 4 * (i + 1) := by rw [List.length_append, List.length_take, List.length_drop]; omega
      refine JC_dr rfl (by kernel_rfl) ?_
      refine JD_stretch 10 (by kernel_rfl) ?_
      refine JW_n (op_buildSlice0 tPt rfl rfl) ?_
      refine JW_1 (op_move rfl) ?_
      refine JW_1 (op_move rfl) ?_
      refine JW_1 (op_slice (Ev.rfl' rfl) rfl rfl rfl ⟨_, _, (Ev.rfl' rfl), (show _ = ((k : Nat) : Int) by first | rfl | omega)⟩ (by omega) (by omega)) ?_
      refine JW_take rfl rfl rfl (by rfl) (by kernel_rfl) (op_appTV (val := fun b : Nat => slV 0 (some ⟨b, 0, none⟩, 0)) (xs := ([] : List Pt)) (by first | exact Ev.rfl' rfl | exact Ev.sub rfl (by first | exact SubL.row (xs := [p]) (by rfl) (by rfl) subsT | exact subT)) (by exact appT rfl rfl rfl) lenT) ?_
      refine JW_1 (op_move rfl) ?_
      refine JW_1 (op_move rfl) ?_
      refine JW_1 (op_add (Ev.rfl' rfl) (Ev.rfl' rfl) wrapT) ?_
      refine JW_1 (op_slice (Ev.rfl' rfl) rfl rfl ⟨_, _, (Ev.rfl' rfl), (show _ = ((k + 1 : Nat) : Int) by first | rfl | omega)⟩ rfl (by omega) (by omega)) ?_
      refine JW_take rfl rfl rfl (by rfl) (by kernel_rfl) (op_appT (by first | exact Ev.rfl' rfl | exact Ev.sub rfl (by first | exact SubL.row (xs := [p]) (by rfl) (by rfl) subsT | exact subT)) (by exact appT rfl rfl rfl) lenT) ?_
      refine ⟨rfl, ?_⟩
      intro i115
      refine JD_1 (by kernel_rfl) rfl rfl (op_assign rfl) ?_
      refine JD_end ?_
      refine JQ_then (JC_exit (JQ_then_exit (JQ_hit (JQ_then ?_))))
      rw [List.take_length]
      refine JC_region ?_
      refine JL_1 rfl (op_move rfl) ?_
      refine JL_1 rfl (op_add (Ev.rfl' rfl) (Ev.rfl' rfl) wrapT) ?_
      refine JL_1 rfl (op_assign rfl) ?_
      refine JL_nil ?_
      first
        | exact JQ_roundP ((i + 1, ow, out.take k ++ out.drop (k + 1), comP (comP H wh) w), i115) ⟨by dsimp only; omega, hO', hnl⟩ (by dsimp only; omega) esubT lessT
        | exact JQ_roundP ((i + 1, ow.set s ((cl : Int) + 1), out, comP (comP H w1) w2), a) ⟨by dsimp only; omega, hA, by dsimp only; omega⟩ (by dsimp only; omega) esubT lessT
        | exact JQ_roundP ((i + 1, ow, out, H), a) ⟨by dsimp only; omega, hA, by dsimp only; omega⟩ (by dsimp only; omega) esubT lessT
        | exact JQ_roundP ((i + 1, ow, ot, H'), a4) ⟨by dsimp only; omega, on_end hF, by dsimp only; omega⟩ (by dsimp only; omega) esubT lessT
    clear h10
    obtain ⟨k0, hk0⟩ : ∃ k : Nat, mv.count % 4 = (k : Int) := ⟨(mv.count % 4).toNat, by omega⟩
    have hkl : k0 < 4 := by omega
    have hpk := PickH_ok mv.count 4 (by omega) (by omega)
    rw [hk0] at hpk
    obtain ⟨pn, nd, R, e1, e2, e3, e4⟩ := on_alloc (cnt := 1 + k0) hO (by omega) (by omega) (show cl < 6 by omega)
    have halo := AllocateW_ok H cl (1 + k0) (104 + 16 * (n : Int)) pn nd R (by omega) hsz (by omega) e1 e2 e3
    rw [← hlines] at halo
    refine JC_skip (JQ_then (JC_seq ?_))
    refine JC_dr rfl (by kernel_rfl) ?_
    refine JD_stretch 15 (by kernel_rfl) ?_
    refine JW_1 (op_move rfl) ?_
    refine JW_1 (op_move rfl) ?_
    refine JW_1 (by first | exact op_nilCheck (Ev.rfl' rfl) | exact op_nilRef (Ev.rfl' rfl)) ?_
    refine JW_1 (by first | exact op_fieldPtr (k := 1) (Ev.rfl' rfl) rfl rfl rfl rfl | exact op_fieldRefN (k := 1) (Ev.rfl' rfl) rfl rfl rfl rfl nrmT) ?_
    refine JW_1 (by first | exact op_loadRef (Ev.rfl' rfl) rfl rfl rfl | exact op_loadPtr (Ev.rfl' rfl) memT (by rfl) (by rfl) (by rfl)) ?_
    refine JW_1 (op_move rfl) ?_
    refine JW_1 (op_move rfl) ?_
    refine JW_1 (by first | exact op_index (j := _) (Ev.rfl' rfl) (Ev.rfl' rfl) rfl rfl (by first | rfl | omega) hz | exact op_index (j := _) (Ev.rfl' rfl) (Ev.rfl' rfl) rfl rfl (by first | rfl | omega) (by assumption)) ?_
    refine JW_1 (by first | exact op_fieldPtr (k := 1) (Ev.rfl' rfl) rfl rfl rfl rfl | exact op_fieldRefN (k := 1) (Ev.rfl' rfl) rfl rfl rfl rfl nrmT) ?_
    refine JW_1 (by first | exact op_loadRef (Ev.rfl' rfl) rfl rfl rfl | exact op_loadPtr (Ev.rfl' rfl) memT (by rfl) (by rfl) (by rfl)) ?_
    refine JW_1 (op_call Try.call14 (hpk) ⟨evS, ⟨evS, trivial⟩⟩) ?_
    refine JW_1 (op_add (Ev.rfl' rfl) (Ev.rfl' rfl) (show _ = (((1 + k0 : Nat) : Int)) by rw [wI64 (by omega)]; omega)) ?_
    refine JW_1 (op_buildN (qs := [(0, _), (1, _), (2, _)]) rfl rfl rfl rfl ⟨⟨rfl, _, (Ev.rfl' rfl), cellsT⟩, ⟨⟨rfl, _, (Ev.rfl' rfl), cellsT⟩, ⟨⟨rfl, _, (Ev.rfl' rfl), cellsT⟩, trivial⟩⟩⟩ (by rfl) nrmT) ?_
    refine JW_n (op_allocN rfl nrmT rfl) ?_
    refine JW_write rfl rfl rfl (by kernel_rfl) (op_storeWN evS cellsT rfl rfl rfl nrmT) ?_
    refine ⟨rfl, ?_⟩
    intro i15
    refine JD_end ?_
    refine JQ_then (JC_seq ?_)
    refine JC_dr rfl (by kernel_rfl) ?_
    refine JD_stretch 5 (by kernel_rfl) ?_
    refine JW_1 (by first | exact op_loadRefsN (n := 3) (Ev.rfl' rfl) rfl rfl rfl (by rfl) nrmT | exact op_loadPtrsN (n := 3) (Ev.rfl' rfl) memT (by rfl) (by rfl) (by rfl) (by rfl) nrmT) ?_
    refine JW_1 (op_move rfl) ?_
    refine JW_1 (by first | exact op_nilCheck (Ev.rfl' rfl) | exact op_nilRef (Ev.rfl' rfl)) ?_
    refine JW_1 (by first | exact op_fieldPtr (k := 0) (Ev.rfl' rfl) rfl rfl rfl rfl | exact op_fieldRefN (k := 0) (Ev.rfl' rfl) rfl rfl rfl rfl nrmT) ?_
    refine JW_1 (by first | exact op_loadRef (Ev.rfl' rfl) rfl rfl rfl | exact op_loadPtr (Ev.rfl' rfl) memT (by rfl) (by rfl) (by rfl)) ?_
    refine ⟨rfl, ?_⟩
    (refine JD_s (by kernel_rfl) rfl rfl (op_callLO (by (try simp only [List.nil_append, List.cons_append]); exact lendT) Try.call40 (halo) ⟨evS, ⟨evS, trivial⟩⟩ (fun _ => pure_r1) (fun _ => ⟨pureI_buf pure_pg, pureI_buf pure_pg, trivial⟩)) ?_; intro i135)
    refine JD_stretch 11 (by kernel_rfl) ?_
    refine JW_1 (op_move rfl) ?_
    refine JW_1 (op_extract (Ev.rfl' rfl) rfl) ?_
    refine JW_1 (op_extract (Ev.rfl' rfl) rfl) ?_
    refine JW_1 (op_extract (Ev.rfl' rfl) rfl) ?_
    refine JW_1 (op_extract (Ev.rfl' rfl) rfl) ?_
    refine JW_1 (op_extract (Ev.rfl' rfl) rfl) ?_
    refine JW_1 (op_assign rfl) ?_
    refine JW_1 (op_assign rfl) ?_
    refine JW_1 (op_assign rfl) ?_
    refine JW_1 (op_assign rfl) ?_
    refine JW_1 (op_assign rfl) ?_
    refine ⟨rfl, ?_⟩
    refine JD_end ?_
    refine JQ_then (JC_seq (JC_seq ?_))
    obtain ⟨j1, j2⟩ := i135
    dsimp only
    refine JC_region ?_
    refine JL_1 rfl (op_move rfl) ?_
    refine JL_1 rfl (op_move rfl) ?_
    (first | refine JL_i0 rfl rfl rfl (fun hg => (by have hg0 := hg; (try simp at hg); first | exact op_moveE (Ev.sub rfl (SubL.iteT (by first | assumption | (simp; done) | (simp; omega) | (simp_all; done)) SubL.rfl')) | exact op_moveE (Ev.rfl' rfl))) ?_ | refine JL_i rfl rfl rfl (fun hp hg => (by have hpg := Bool.and_eq_true_iff.2 ⟨hp, hg⟩; have hg0 := hg; (try simp at hg); first | exact op_moveE (Ev.sub rfl (SubL.iteT (by first | assumption | (simp; done) | (simp; omega) | (simp_all; done)) SubL.rfl')) | exact op_moveE (Ev.rfl' rfl))) ?_)
    (first | refine JL_i0 rfl rfl rfl (fun hg => (by have hg0 := hg; (try simp at hg); exact op_eql evG evG)) ?_ | refine JL_i rfl rfl rfl (fun hp hg => (by have hpg := Bool.and_eq_true_iff.2 ⟨hp, hg⟩; have hg0 := hg; (try simp at hg); exact op_eql evG evG)) ?_)
    refine JL_1 rfl (op_and (Ev.rfl' rfl) rfl (fun h => by first | exact SubL.rfl' | exact SubL.iteT (by first | (rw [h]; rfl) | (simp_all; done)) SubL.rfl')) ?_
    refine JL_nil ?_
    refine JQ_then ?_
    refine JC_cond (Ev.rfl' rfl) (fun h19 => ?_) (fun h19 => ?_)
    · have hacqp := on_acq hO (by omega) hc
      obtain ⟨q1, q2, r, q3, hA0⟩ := hacqp
      have hacq := AcquireW_ok H cl 1 (104 + 16 * (n : Int)) (by omega) (by decide) hsz (fun _ => by rw [q2]; exact Nat.zero_le _) q1 _ q3
      rw [← hlines] at hacq
      clear h19 e4 halo
      refine JC_seq ?_
      refine JC_dr rfl (by kernel_rfl) ?_
      refine JD_stretch 10 (by kernel_rfl) ?_
      refine JW_1 (op_move rfl) ?_
      refine JW_1 (op_move rfl) ?_
      refine JW_1 (by first | exact op_nilCheck (Ev.rfl' rfl) | exact op_nilRef (Ev.rfl' rfl)) ?_
      refine JW_1 (by first | exact op_fieldPtr (k := 1) (Ev.rfl' rfl) rfl rfl rfl rfl | exact op_fieldRefN (k := 1) (Ev.rfl' rfl) rfl rfl rfl rfl nrmT) ?_
      refine JW_1 (by first | exact op_loadRef (Ev.rfl' rfl) rfl rfl rfl | exact op_loadPtr (Ev.rfl' rfl) memT (by rfl) (by rfl) (by rfl)) ?_
      refine JW_1 (op_buildN (qs := [(0, _), (1, _), (2, _), (3, _)]) rfl rfl rfl rfl ⟨⟨rfl, _, (Ev.rfl' rfl), cellsT⟩, ⟨⟨rfl, _, (Ev.rfl' rfl), cellsT⟩, ⟨⟨rfl, _, (Ev.rfl' rfl), cellsT⟩, ⟨⟨rfl, _, (Ev.rfl' rfl), cellsT⟩, trivial⟩⟩⟩⟩ (by rfl) nrmT) ?_
      refine JW_1 (op_move rfl) ?_
      refine JW_1 (by first | exact op_nilCheck (Ev.rfl' rfl) | exact op_nilRef (Ev.rfl' rfl)) ?_
      refine JW_1 (by first | exact op_fieldPtr (k := 0) (Ev.rfl' rfl) rfl rfl rfl rfl | exact op_fieldRefN (k := 0) (Ev.rfl' rfl) rfl rfl rfl rfl nrmT) ?_
      refine JW_1 (by first | exact op_loadRef (Ev.rfl' rfl) rfl rfl rfl | exact op_loadPtr (Ev.rfl' rfl) memT (by rfl) (by rfl) (by rfl)) ?_
      refine ⟨rfl, ?_⟩
      (refine JD_s (by kernel_rfl) rfl rfl (op_callLO (by (try simp only [List.nil_append, List.cons_append]); exact lendT) Try.call38 (hacq) ⟨evS, ⟨evS, trivial⟩⟩ (fun _ => pure_r1) (fun _ => ⟨pureI_buf pure_pg, trivial⟩)) ?_; intro i157)
      refine JD_stretch 11 (by kernel_rfl) ?_
      refine JW_1 (op_move rfl) ?_
      refine JW_1 (op_extract (Ev.rfl' rfl) rfl) ?_
      refine JW_1 (op_extract (Ev.rfl' rfl) rfl) ?_
      refine JW_1 (op_extract (Ev.rfl' rfl) rfl) ?_
      refine JW_1 (op_extract (Ev.rfl' rfl) rfl) ?_
      refine JW_1 (op_extract (Ev.rfl' rfl) rfl) ?_
      refine JW_1 (op_assign rfl) ?_
      refine JW_1 (op_assign rfl) ?_
      refine JW_1 (op_assign rfl) ?_
      refine JW_1 (op_assign rfl) ?_
      refine JW_1 (op_assign rfl) ?_
      refine ⟨rfl, ?_⟩
      refine JD_end ?_
      refine JQ_then (JC_seq (JC_seq ?_))
      refine JC_region ?_
      refine JL_1 rfl (op_move rfl) ?_
      refine JL_1 rfl (op_not (Ev.rfl' rfl)) ?_
      refine JL_1 rfl (op_move rfl) ?_
      (first | refine JL_i0 rfl rfl rfl (fun hg => (by have hg0 := hg; (try simp at hg); first | exact op_moveE (Ev.sub rfl (SubL.iteT (by first | assumption | (simp; done) | (simp; omega) | (simp_all; done)) SubL.rfl')) | exact op_moveE (Ev.rfl' rfl))) ?_ | refine JL_i rfl rfl rfl (fun hp hg => (by have hpg := Bool.and_eq_true_iff.2 ⟨hp, hg⟩; have hg0 := hg; (try simp at hg); first | exact op_moveE (Ev.sub rfl (SubL.iteT (by first | assumption | (simp; done) | (simp; omega) | (simp_all; done)) SubL.rfl')) | exact op_moveE (Ev.rfl' rfl))) ?_)
      (first | refine JL_i0 rfl rfl rfl (fun hg => (by have hg0 := hg; (try simp at hg); exact op_neq evG evG)) ?_ | refine JL_i rfl rfl rfl (fun hp hg => (by have hpg := Bool.and_eq_true_iff.2 ⟨hp, hg⟩; have hg0 := hg; (try simp at hg); exact op_neq evG evG)) ?_)
      (first | refine JL_i0 rfl rfl rfl (fun hg => (by have hg0 := hg; (try simp at hg); first | exact op_moveE (Ev.sub rfl (SubL.iteT (by first | assumption | (simp; done) | (simp; omega) | (simp_all; done)) SubL.rfl')) | exact op_moveE (Ev.rfl' rfl))) ?_ | refine JL_i rfl rfl rfl (fun hp hg => (by have hpg := Bool.and_eq_true_iff.2 ⟨hp, hg⟩; have hg0 := hg; (try simp at hg); first | exact op_moveE (Ev.sub rfl (SubL.iteT (by first | assumption | (simp; done) | (simp; omega) | (simp_all; done)) SubL.rfl')) | exact op_moveE (Ev.rfl' rfl))) ?_)
      (first | refine JL_i0 rfl rfl rfl (fun hg => (by have hg0 := hg; (try simp at hg); first | exact op_moveE (Ev.sub rfl (SubL.iteT (by first | assumption | (simp; done) | (simp; omega) | (simp_all; done)) SubL.rfl')) | exact op_moveE (Ev.rfl' rfl))) ?_ | refine JL_i rfl rfl rfl (fun hp hg => (by have hpg := Bool.and_eq_true_iff.2 ⟨hp, hg⟩; have hg0 := hg; (try simp at hg); first | exact op_moveE (Ev.sub rfl (SubL.iteT (by first | assumption | (simp; done) | (simp; omega) | (simp_all; done)) SubL.rfl')) | exact op_moveE (Ev.rfl' rfl))) ?_)
      (first | refine JL_i0 rfl rfl rfl (fun hg => (by have hg0 := hg; (try simp at hg); exact op_neq evG evG)) ?_ | refine JL_i rfl rfl rfl (fun hp hg => (by have hpg := Bool.and_eq_true_iff.2 ⟨hp, hg⟩; have hg0 := hg; (try simp at hg); exact op_neq evG evG)) ?_)
      (first | refine JL_i0 rfl rfl rfl (fun hg => (by have hg0 := hg; (try simp at hg); exact op_and evG rfl (fun h => by first | exact SubL.rfl' | exact SubL.iteT (by first | (rw [h]; rfl) | (simp_all; done)) SubL.rfl'))) ?_ | refine JL_i rfl rfl rfl (fun hp hg => (by have hpg := Bool.and_eq_true_iff.2 ⟨hp, hg⟩; have hg0 := hg; (try simp at hg); exact op_and evG rfl (fun h => by first | exact SubL.rfl' | exact SubL.iteT (by first | (rw [h]; rfl) | (simp_all; done)) SubL.rfl'))) ?_)
      refine JL_1 rfl (op_or (Ev.rfl' rfl) rfl (fun h => by first | exact SubL.rfl' | exact SubL.iteT (by first | (rw [h]; rfl) | (simp_all; done)) SubL.rfl')) ?_
      refine JL_nil ?_
      refine JQ_then ?_
      refine JC_cond (Ev.rfl' rfl) (fun h21 => ?_) (fun h21 => ?_)
      · rcases hA0 with ⟨q4, _⟩ | ⟨s, w1, w2, q4, _⟩ <;> (rw [q4] at h21; simp at h21)
      clear h21
      refine JC_skip (JQ_then (JC_seq (JC_seq ?_)))
      refine JC_region ?_
      refine JL_1 rfl (op_move rfl) ?_
      refine JL_1 rfl (op_eql (Ev.rfl' rfl) (Ev.rfl' rfl)) ?_
      refine JL_nil ?_
      refine JQ_then ?_
      refine JC_cond (Ev.rfl' rfl) (fun h23 => ?_) (fun h23 => ?_)
      · rcases hA0 with ⟨q4, _⟩ | ⟨s, w1, w2, q4, hs, how, hw, hA⟩
        · rw [q4] at h23; simp at h23
        subst q4
        dsimp only
        clear h23
        have hcom := Commit_ok b (8 + 16 * n) s0 (96 + ((8 + 16 * n : Nat) : Int)) H [w1, w2] hO.len (by omega) (fun v hw' => by
          rcases List.mem_cons.1 hw' with h | h
          · subst h; omega
          · rcases List.mem_cons.1 h with h | h
            · subst h; omega
            · cases h)
        have hs12 : s < ow.length := by omega
        refine JC_seq (JC_seq ?_)
        refine JC_region ?_
        refine JL_1 rfl (op_move rfl) ?_
        refine JL_1 rfl (op_lss (Ev.rfl' rfl) (Ev.rfl' rfl)) ?_
        refine JL_1 rfl (op_move rfl) ?_
        (first | refine JL_i0 rfl rfl rfl (fun hg => (by have hg0 := hg; (try simp at hg); first | exact op_moveE (Ev.sub rfl (SubL.iteT (by first | assumption | (simp; done) | (simp; omega) | (simp_all; done)) SubL.rfl')) | exact op_moveE (Ev.rfl' rfl))) ?_ | refine JL_i rfl rfl rfl (fun hp hg => (by have hpg := Bool.and_eq_true_iff.2 ⟨hp, hg⟩; have hg0 := hg; (try simp at hg); first | exact op_moveE (Ev.sub rfl (SubL.iteT (by first | assumption | (simp; done) | (simp; omega) | (simp_all; done)) SubL.rfl')) | exact op_moveE (Ev.rfl' rfl))) ?_)
        (first | refine JL_i0 rfl rfl rfl (fun hg => (by have hg0 := hg; (try simp at hg); first | exact op_moveE (Ev.sub rfl (SubL.iteT (by first | assumption | (simp; done) | (simp; omega) | (simp_all; done)) SubL.rfl')) | exact op_moveE (Ev.rfl' rfl))) ?_ | refine JL_i rfl rfl rfl (fun hp hg => (by have hpg := Bool.and_eq_true_iff.2 ⟨hp, hg⟩; have hg0 := hg; (try simp at hg); first | exact op_moveE (Ev.sub rfl (SubL.iteT (by first | assumption | (simp; done) | (simp; omega) | (simp_all; done)) SubL.rfl')) | exact op_moveE (Ev.rfl' rfl))) ?_)
        (first | refine JL_i0 rfl rfl rfl (fun hg => (by have hg0 := hg; (try simp at hg); first | exact op_nilCheck evG | exact op_nilRef evG | exact op_nilBuf evG memT lenT)) ?_ | refine JL_i rfl rfl rfl (fun hp hg => (by have hpg := Bool.and_eq_true_iff.2 ⟨hp, hg⟩; have hg0 := hg; (try simp at hg); first | exact op_nilCheck evG | exact op_nilRef evG | exact op_nilBuf evG memT lenT)) ?_)
        (first | refine JL_i0 rfl rfl rfl (fun hg => (by have hg0 := hg; (try simp at hg); first | exact op_fieldPtr (k := 1) evG rfl rfl rfl rfl | exact op_fieldRefN (k := 1) evG rfl rfl rfl rfl nrmT | exact op_fieldBuf (k := 1) evG memT lenT rfl rfl rfl rfl)) ?_ | refine JL_i rfl rfl rfl (fun hp hg => (by have hpg := Bool.and_eq_true_iff.2 ⟨hp, hg⟩; have hg0 := hg; (try simp at hg); first | exact op_fieldPtr (k := 1) evG rfl rfl rfl rfl | exact op_fieldRefN (k := 1) evG rfl rfl rfl rfl nrmT | exact op_fieldBuf (k := 1) evG memT lenT rfl rfl rfl rfl)) ?_)
        (first | refine JL_i0 rfl rfl rfl (fun hg => (by have hg0 := hg; (try simp at hg); first | exact op_loadBuf evG memT how rfl rfl (by rfl) | exact op_loadBuf0 evG memT how rfl rfl (by rfl) | exact op_loadRef evG rfl rfl rfl | exact op_loadPtr evG memT (by rfl) (by rfl) (by rfl))) ?_ | refine JL_i rfl rfl rfl (fun hp hg => (by have hpg := Bool.and_eq_true_iff.2 ⟨hp, hg⟩; have hg0 := hg; (try simp at hg); first | exact op_loadBuf evG memT how rfl rfl (by rfl) | exact op_loadBuf0 evG memT how rfl rfl (by rfl) | exact op_loadRef evG rfl rfl rfl | exact op_loadPtr evG memT (by rfl) (by rfl) (by rfl))) ?_)
        (first | refine JL_i0 rfl rfl rfl (fun hg => (by have hg0 := hg; (try simp at hg); exact op_call Try.call29 (hcount) ⟨evS, trivial⟩)) ?_ | refine JL_i rfl rfl rfl (fun hp hg => (by have hpg := Bool.and_eq_true_iff.2 ⟨hp, hg⟩; have hg0 := hg; (try simp at hg); exact op_call Try.call29 (hcount) ⟨evS, trivial⟩)) ?_)
        (first | refine JL_i0 rfl rfl rfl (fun hg => (by have hg0 := hg; (try simp at hg); exact op_geq evG evG)) ?_ | refine JL_i rfl rfl rfl (fun hp hg => (by have hpg := Bool.and_eq_true_iff.2 ⟨hp, hg⟩; have hg0 := hg; (try simp at hg); exact op_geq evG evG)) ?_)
        refine JL_1 rfl (op_or (Ev.rfl' rfl) rfl (fun h => by first | exact SubL.rfl' | exact SubL.iteT (by first | (rw [h]; rfl) | (simp_all; done)) SubL.rfl')) ?_
        refine JL_1 rfl (op_move rfl) ?_
        (first | refine JL_i0 rfl rfl rfl (fun hg => (by have hg0 := hg; (try simp at hg); first | exact op_moveE (Ev.sub rfl (SubL.iteT (by first | assumption | (simp; done) | (simp; omega) | (simp_all; done)) SubL.rfl')) | exact op_moveE (Ev.rfl' rfl))) ?_ | refine JL_i rfl rfl rfl (fun hp hg => (by have hpg := Bool.and_eq_true_iff.2 ⟨hp, hg⟩; have hg0 := hg; (try simp at hg); first | exact op_moveE (Ev.sub rfl (SubL.iteT (by first | assumption | (simp; done) | (simp; omega) | (simp_all; done)) SubL.rfl')) | exact op_moveE (Ev.rfl' rfl))) ?_)
        (first | refine JL_i0 rfl rfl rfl (fun hg => (by have hg0 := hg; (try simp at hg); first | exact op_moveE (Ev.sub rfl (SubL.iteT (by first | assumption | (simp; done) | (simp; omega) | (simp_all; done)) SubL.rfl')) | exact op_moveE (Ev.rfl' rfl))) ?_ | refine JL_i rfl rfl rfl (fun hp hg => (by have hpg := Bool.and_eq_true_iff.2 ⟨hp, hg⟩; have hg0 := hg; (try simp at hg); first | exact op_moveE (Ev.sub rfl (SubL.iteT (by first | assumption | (simp; done) | (simp; omega) | (simp_all; done)) SubL.rfl')) | exact op_moveE (Ev.rfl' rfl))) ?_)
        (first | refine JL_i0 rfl rfl rfl (fun hg => (by have hg0 := hg; (try simp at hg); first | exact op_indexBuf (k := s) evG memT evG rfl rfl idxT lenT | exact op_index (j := _) evG evG rfl rfl (by first | rfl | omega) hz | exact op_index (j := _) evG evG rfl rfl (by first | rfl | omega) (by assumption))) ?_ | refine JL_i rfl rfl rfl (fun hp hg => (by have hpg := Bool.and_eq_true_iff.2 ⟨hp, hg⟩; have hg0 := hg; (try simp at hg); first | exact op_indexBuf (k := s) evG memT evG rfl rfl idxT lenT | exact op_index (j := _) evG evG rfl rfl (by first | rfl | omega) hz | exact op_index (j := _) evG evG rfl rfl (by first | rfl | omega) (by assumption))) ?_)
        (first | refine JL_i0 rfl rfl rfl (fun hg => (by have hg0 := hg; (try simp at hg); first | exact op_loadBuf evG memT how rfl rfl (by rfl) | exact op_loadBuf0 evG memT how rfl rfl (by rfl) | exact op_loadRef evG rfl rfl rfl | exact op_loadPtr evG memT (by rfl) (by rfl) (by rfl))) ?_ | refine JL_i rfl rfl rfl (fun hp hg => (by have hpg := Bool.and_eq_true_iff.2 ⟨hp, hg⟩; have hg0 := hg; (try simp at hg); first | exact op_loadBuf evG memT how rfl rfl (by rfl) | exact op_loadBuf0 evG memT how rfl rfl (by rfl) | exact op_loadRef evG rfl rfl rfl | exact op_loadPtr evG memT (by rfl) (by rfl) (by rfl))) ?_)
        (first | refine JL_i0 rfl rfl rfl (fun hg => (by have hg0 := hg; (try simp at hg); exact op_neq evG evG)) ?_ | refine JL_i rfl rfl rfl (fun hp hg => (by have hpg := Bool.and_eq_true_iff.2 ⟨hp, hg⟩; have hg0 := hg; (try simp at hg); exact op_neq evG evG)) ?_)
        refine JL_1 rfl (op_or (Ev.rfl' rfl) rfl (fun h => by first | exact SubL.rfl' | exact SubL.iteT (by first | (rw [h]; rfl) | (simp_all; done)) SubL.rfl')) ?_
        refine JL_nil ?_
        refine JQ_then ?_
        refine JC_cond (Ev.rfl' rfl) (fun h24 => ?_) (fun h24 => ?_)
        · exact absurd h24 (by simp; omega)
        clear h24
        refine JC_skip (JQ_then (JC_seq ?_))
        refine JC_region ?_
        refine JL_1 rfl (op_move rfl) ?_
        refine JL_1 rfl (op_move rfl) ?_
        refine JL_1 rfl (op_move rfl) ?_
        refine JL_1 rfl (op_add (Ev.rfl' rfl) (Ev.rfl' rfl) wrapT) ?_
        refine JL_1 rfl (by first | exact op_indexBuf (k := s) (Ev.rfl' rfl) memT (Ev.rfl' rfl) rfl rfl idxT lenT | exact op_index (j := _) (Ev.rfl' rfl) (Ev.rfl' rfl) rfl rfl (by first | rfl | omega) hz | exact op_index (j := _) (Ev.rfl' rfl) (Ev.rfl' rfl) rfl rfl (by first | rfl | omega) (by assumption)) ?_
        refine JL_s0 (by first | exact op_storeBuf (z' := ((cl : Int) + 1)) (Ev.rfl' rfl) (Ev.rfl' rfl) cellsT replT how rfl (by rfl) (by rfl) | exact op_storeBuf0 (z' := ((cl : Int) + 1)) (Ev.rfl' rfl) (Ev.rfl' rfl) cellsT replT how rfl (by rfl) (by rfl)) ?_
        refine JL_nil ?_
        refine JQ_then ?_
        refine JC_freeze hX (v := slV 2 i157) replT ?_
        refine JC_region ?_
        refine JL_1 rfl (op_move rfl) ?_
        refine JL_1 rfl (op_move rfl) ?_
        (refine JL_s rfl (op_callT2 drop1T drop1T Try.call39 (hcom) ⟨evS, ⟨evS, trivial⟩⟩) ?_; intro i200)
        refine JL_nil ?_
        refine JQ_then (JC_exit (JQ_then_exit (JQ_hit (JQ_then ?_))))
        refine JC_region ?_
        refine JL_1 rfl (op_move rfl) ?_
        refine JL_1 rfl (op_add (Ev.rfl' rfl) (Ev.rfl' rfl) wrapT) ?_
        refine JL_1 rfl (op_assign rfl) ?_
        refine JL_nil ?_
        first
          | exact JQ_roundP ((i + 1, ow, out.take k ++ out.drop (k + 1), comP (comP H wh) w), i115) ⟨by dsimp only; omega, hO', hnl⟩ (by dsimp only; omega) esubT lessT
          | exact JQ_roundP ((i + 1, ow.set s ((cl : Int) + 1), out, comP (comP H w1) w2), a) ⟨by dsimp only; omega, hA, by dsimp only; omega⟩ (by dsimp only; omega) esubT lessT
          | exact JQ_roundP ((i + 1, ow, out, H), a) ⟨by dsimp only; omega, hA, by dsimp only; omega⟩ (by dsimp only; omega) esubT lessT
          | exact JQ_roundP ((i + 1, ow, ot, H'), a4) ⟨by dsimp only; omega, on_end hF, by dsimp only; omega⟩ (by dsimp only; omega) esubT lessT
      rcases hA0 with ⟨q4, hA⟩ | ⟨s, w1, w2, q4, _⟩
      rotate_left
      · rw [q4] at h23; simp at h23
      clear h23
      refine JC_skip (JQ_then (JC_exit (JQ_then_exit (JQ_hit (JQ_then ?_)))))
      refine JC_region ?_
      refine JL_1 rfl (op_move rfl) ?_
      refine JL_1 rfl (op_add (Ev.rfl' rfl) (Ev.rfl' rfl) wrapT) ?_
      refine JL_1 rfl (op_assign rfl) ?_
      refine JL_nil ?_
      first
        | exact JQ_roundP ((i + 1, ow, out.take k ++ out.drop (k + 1), comP (comP H wh) w), i115) ⟨by dsimp only; omega, hO', hnl⟩ (by dsimp only; omega) esubT lessT
        | exact JQ_roundP ((i + 1, ow.set s ((cl : Int) + 1), out, comP (comP H w1) w2), a) ⟨by dsimp only; omega, hA, by dsimp only; omega⟩ (by dsimp only; omega) esubT lessT
        | exact JQ_roundP ((i + 1, ow, out, H), a) ⟨by dsimp only; omega, hA, by dsimp only; omega⟩ (by dsimp only; omega) esubT lessT
        | exact JQ_roundP ((i + 1, ow, ot, H'), a4) ⟨by dsimp only; omega, on_end hF, by dsimp only; omega⟩ (by dsimp only; omega) esubT lessT
    rcases e4 with q2 | ⟨pk, P, W, q1, p1, p2, p3, p4, p5, hF⟩
    · exfalso
      rw [q2] at h19
      simp at h19
    subst q1
    dsimp only
    clear h19
    refine JC_skip (JQ_then (JC_seq (JC_seq ?_)))
    refine JC_region ?_
    refine JL_1 rfl (op_move rfl) ?_
    refine JL_1 rfl (op_not (Ev.rfl' rfl)) ?_
    refine JL_1 rfl (op_move rfl) ?_
    (first | refine JL_i0 rfl rfl rfl (fun hg => (by have hg0 := hg; (try simp at hg); first | exact op_moveE (Ev.sub rfl (SubL.iteT (by first | assumption | (simp; done) | (simp; omega) | (simp_all; done)) SubL.rfl')) | exact op_moveE (Ev.rfl' rfl))) ?_ | refine JL_i rfl rfl rfl (fun hp hg => (by have hpg := Bool.and_eq_true_iff.2 ⟨hp, hg⟩; have hg0 := hg; (try simp at hg); first | exact op_moveE (Ev.sub rfl (SubL.iteT (by first | assumption | (simp; done) | (simp; omega) | (simp_all; done)) SubL.rfl')) | exact op_moveE (Ev.rfl' rfl))) ?_)
    (first | refine JL_i0 rfl rfl rfl (fun hg => (by have hg0 := hg; (try simp at hg); exact op_neq evG evG)) ?_ | refine JL_i rfl rfl rfl (fun hp hg => (by have hpg := Bool.and_eq_true_iff.2 ⟨hp, hg⟩; have hg0 := hg; (try simp at hg); exact op_neq evG evG)) ?_)
    refine JL_1 rfl (op_or (Ev.rfl' rfl) rfl (fun h => by first | exact SubL.rfl' | exact SubL.iteT (by first | (rw [h]; rfl) | (simp_all; done)) SubL.rfl')) ?_
    refine JL_1 rfl (op_move rfl) ?_
    (first | refine JL_i0 rfl rfl rfl (fun hg => (by have hg0 := hg; (try simp at hg); first | exact op_moveE (Ev.sub rfl (SubL.iteT (by first | assumption | (simp; done) | (simp; omega) | (simp_all; done)) SubL.rfl')) | exact op_moveE (Ev.rfl' rfl))) ?_ | refine JL_i rfl rfl rfl (fun hp hg => (by have hpg := Bool.and_eq_true_iff.2 ⟨hp, hg⟩; have hg0 := hg; (try simp at hg); first | exact op_moveE (Ev.sub rfl (SubL.iteT (by first | assumption | (simp; done) | (simp; omega) | (simp_all; done)) SubL.rfl')) | exact op_moveE (Ev.rfl' rfl))) ?_)
    (first | refine JL_i0 rfl rfl rfl (fun hg => (by have hg0 := hg; (try simp at hg); first | exact op_len evG rfl | exact op_lenLit evG rfl)) ?_ | refine JL_i rfl rfl rfl (fun hp hg => (by have hpg := Bool.and_eq_true_iff.2 ⟨hp, hg⟩; have hg0 := hg; (try simp at hg); first | exact op_len evG rfl | exact op_lenLit evG rfl)) ?_)
    (first | refine JL_i0 rfl rfl rfl (fun hg => (by have hg0 := hg; (try simp at hg); first | exact op_fieldPtr (k := 2) evG rfl rfl rfl rfl | exact op_fieldRefN (k := 2) evG rfl rfl rfl rfl nrmT)) ?_ | refine JL_i rfl rfl rfl (fun hp hg => (by have hpg := Bool.and_eq_true_iff.2 ⟨hp, hg⟩; have hg0 := hg; (try simp at hg); first | exact op_fieldPtr (k := 2) evG rfl rfl rfl rfl | exact op_fieldRefN (k := 2) evG rfl rfl rfl rfl nrmT)) ?_)
    (first | refine JL_i0 rfl rfl rfl (fun hg => (by have hg0 := hg; (try simp at hg); first | exact op_loadRef evG rfl rfl rfl | exact op_loadPtr evG memT (by rfl) (by rfl) (by rfl))) ?_ | refine JL_i rfl rfl rfl (fun hp hg => (by have hpg := Bool.and_eq_true_iff.2 ⟨hp, hg⟩; have hg0 := hg; (try simp at hg); first | exact op_loadRef evG rfl rfl rfl | exact op_loadPtr evG memT (by rfl) (by rfl) (by rfl))) ?_)
    (first | refine JL_i0 rfl rfl rfl (fun hg => (by have hg0 := hg; (try simp at hg); exact op_neq evG evG)) ?_ | refine JL_i rfl rfl rfl (fun hp hg => (by have hpg := Bool.and_eq_true_iff.2 ⟨hp, hg⟩; have hg0 := hg; (try simp at hg); exact op_neq evG evG)) ?_)
    refine JL_1 rfl (op_or (Ev.rfl' rfl) rfl (fun h => by first | exact SubL.rfl' | exact SubL.iteT (by first | (rw [h]; rfl) | (simp_all; done)) SubL.rfl')) ?_
    refine JL_nil ?_
    refine JQ_then ?_
    refine JC_cond (Ev.rfl' rfl) (fun h28 => ?_) (fun h28 => ?_)
    · exact absurd h28 (by simp; omega)
    clear h28
    refine JC_freeze hX (v := slV P.length j1) replT ?_
    refine JC_freeze hX (v := slV W.length j2) replT ?_
    have hcom := Commit_ok b (8 + 16 * n) s0 (96 + ((8 + 16 * n : Nat) : Int)) H W hO.len (by omega) (fun w hw => by have := p5 w hw; omega)
    refine JC_skip (JQ_then (JC_seq ?_))
    refine JC_region ?_
    refine JL_1 rfl (op_move rfl) ?_
    refine JL_1 rfl (op_move rfl) ?_
    (refine JL_s rfl (op_callT2 drop1T drop1T Try.call39 (hcom) ⟨evS, ⟨evS, trivial⟩⟩) ?_; intro i216)
    refine JL_nil ?_
    refine JQ_then (JC_seq ?_)
    refine JC_set 17 (IsSl tPg P) rfl (SubL.fact memT) ?_
    refine JC_region ?_
    refine JL_1 rfl (op_assign rfl) ?_
    refine JL_nil ?_
    refine JQ_then (JC_block ?_)
    refine JC_loopP (fun z : (Nat × List Pt × List Pg) × (Option Addr × Nat) => z.1.1 ≤ 1 + k0 ∧ OnH n i ow z.1.2.1 (pk.drop z.1.1) z.1.2.2 ∧ z.1.2.1.length ≤ 4 * i + z.1.1) (fun z => [(1, IsSl tMv l), (5, Is (.pointer (some ⟨b, 0, none⟩))), (6, Is (slV z.1.2.1.length z.2)), (7, Is (slV 12 (some ⟨i46, 0, none⟩, 12))), (8, Is (.int .i64 (i : Nat))), (9, Is (.int .i64 (cl : Nat))), (17, IsSl tPg P), (26, Is (.int .i64 (z.1.1 : Nat)))]) (fun z => [blk b 80 (heapC (slV (8 + 16 * n) s0) (96 + ((8 + 16 * n : Nat) : Int))), buf (slV (8 + 16 * n) s0) 25 tPg z.1.2.2, buf (slV 12 (some ⟨i46, 0, none⟩, 12)) 3 tI64 ow, buf (slV (z.1.2.1).length z.2) 100 tPt z.1.2.1]) (fun z => 1 + k0 - z.1.1) ((0, out, W.foldl comP H), a) ⟨Nat.zero_le _, hF, by dsimp only; omega⟩ esubT lessT ?_
    rintro ⟨⟨j, ot, H'⟩, a4⟩ ⟨hj, hF, hotl⟩
    dsimp only at hj hF hotl ⊢
    refine JC_seq (JC_seq ?_)
    refine JC_region ?_
    refine JL_1 rfl (op_move rfl) ?_
    refine JL_1 rfl (op_move rfl) ?_
    refine JL_1 rfl (by first | exact op_len (Ev.rfl' rfl) rfl | exact op_lenLit (Ev.rfl' rfl) rfl) ?_
    refine JL_1 rfl (op_lss (Ev.rfl' rfl) (Ev.rfl' rfl)) ?_
    refine JL_nil ?_
    refine JQ_then ?_
    refine JC_cond (Ev.rfl' rfl) (fun h32 => ?_) (fun h32 => ?_)
    · have hlt2 : j < 1 + k0 := by have := of_decide_eq_true h32; omega
      clear h32
      obtain ⟨x, hx⟩ : ∃ x, pk[j]? = some x := ⟨pk[j], List.getElem?_eq_getElem (by omega)⟩
      obtain ⟨s, y⟩ := x
      rw [drop_at hx] at hF
      obtain ⟨hsn, hy, how, z, hz2, z1, z2, z3, z4⟩ := p4 j s y hx
      have hnot : (s, y) ∉ pk.drop (j + 1) := fun hm' => by
        have := (List.nodup_cons.1 ((drop_at hx) ▸ (List.drop_sublist j pk).nodup p2)).1
        exact this hm'
      obtain ⟨hne, hF'⟩ := on_page (kind := 1) hF hnot z1 z4 (by omega) (by decide)
      have hal := AllocateP_ok z 1 0#32 (by decide)
      rw [all_ok (by omega) z2 z3 (by omega)] at hal
      have hlocate := Locate_ok (104 + 16 * (n : Int)) z.l
      rw [loc_seg (by omega) hsn hy z1, ← hlines] at hlocate
      obtain ⟨tp, htp⟩ : ∃ tp, tagP z ⟨1, genV z.d0 + 1, 0#32⟩ = tp := ⟨_, rfl⟩
      rw [htp] at hF' hal
      have htl : tp.l = z.l := by rw [← htp]; rfl
      have hcom := Commit_ok b (8 + 16 * n) s0 (96 + ((8 + 16 * n : Nat) : Int)) H' [tp] hF.len (by omega) (fun w hw => by rw [List.mem_singleton.1 hw]; omega)
      (try dsimp only at hlocate)
      (try dsimp only at hal)
      have hs12 : s < ow.length := by omega
      have hcell0 : tp.l = tp.l := rfl
      refine JC_skip (JQ_then (JC_seq (JC_block (JC_seq ?_))))
      refine JC_dr rfl (by kernel_rfl) ?_
      refine JD_stretch 17 (by kernel_rfl) ?_
      refine JW_1 (op_move rfl) ?_
      refine JW_1 (by first | exact op_nilCheck (Ev.rfl' rfl) | exact op_nilRef (Ev.rfl' rfl)) ?_
      refine JW_1 (by first | exact op_fieldPtr (k := 1) (Ev.rfl' rfl) rfl rfl rfl rfl | exact op_fieldRefN (k := 1) (Ev.rfl' rfl) rfl rfl rfl rfl nrmT) ?_
      refine JW_1 (by first | exact op_loadRef (Ev.rfl' rfl) rfl rfl rfl | exact op_loadPtr (Ev.rfl' rfl) memT (by rfl) (by rfl) (by rfl)) ?_
      refine JW_1 (op_move rfl) ?_
      refine JW_1 (op_move rfl) ?_
      refine JW_1 (by first | exact op_index (j := _) (Ev.rfl' rfl) (Ev.rfl' rfl) rfl rfl (by first | rfl | omega) hz2 | exact op_index (j := _) (Ev.rfl' rfl) (Ev.rfl' rfl) rfl rfl (by first | rfl | omega) (by assumption)) ?_
      refine JW_1 (by first | exact op_fieldPtr (k := 0) (Ev.rfl' rfl) rfl rfl rfl rfl | exact op_fieldRefN (k := 0) (Ev.rfl' rfl) rfl rfl rfl rfl nrmT) ?_
      refine JW_1 (by first | exact op_loadRef (Ev.rfl' rfl) rfl rfl rfl | exact op_loadPtr (Ev.rfl' rfl) memT (by rfl) (by rfl) (by rfl)) ?_
      refine JW_1 (op_call Try.call27 (hlocate) ⟨evS, ⟨evS, trivial⟩⟩) ?_
      refine JW_1 (op_move rfl) ?_
      refine JW_1 (op_extract (Ev.rfl' rfl) rfl) ?_
      refine JW_1 (op_extract (Ev.rfl' rfl) rfl) ?_
      refine JW_1 (op_extract (Ev.rfl' rfl) rfl) ?_
      refine JW_1 (op_assign rfl) ?_
      refine JW_1 (op_assign rfl) ?_
      refine JW_1 (op_assign rfl) ?_
      refine ⟨rfl, ?_⟩
      refine JD_end ?_
      refine JQ_then (JC_seq ?_)
      refine JC_region ?_
      refine JL_1 rfl (op_move rfl) ?_
      refine JL_1 rfl (op_move rfl) ?_
      refine JL_1 rfl (by first | exact op_index (j := _) (Ev.rfl' rfl) (Ev.rfl' rfl) rfl rfl (by first | rfl | omega) hz2 | exact op_index (j := _) (Ev.rfl' rfl) (Ev.rfl' rfl) rfl rfl (by first | rfl | omega) (by assumption)) ?_
      refine JL_1 rfl (by first | exact op_loadRefsN (n := 9) (Ev.rfl' rfl) rfl rfl rfl (by rfl) nrmT | exact op_loadPtrsN (n := 9) (Ev.rfl' rfl) memT (by rfl) (by rfl) (by rfl) (by rfl) nrmT) ?_
      refine JL_1 rfl (op_call Try.call41 (hal) ⟨evS, ⟨evS, ⟨evS, trivial⟩⟩⟩) ?_
      refine JL_1 rfl (op_move rfl) ?_
      refine JL_1 rfl (op_extract (Ev.rfl' rfl) rfl) ?_
      refine JL_1 rfl (op_extract (Ev.rfl' rfl) rfl) ?_
      (refine JL_n rfl (op_allocN rfl nrmT rfl) ?_; intro i30)
      refine JL_s0 (op_storeN (Ev.rfl' rfl) (Ev.rfl' rfl) cellsT replT nrmT (by rfl) (by rfl) (by rfl)) ?_
      refine JL_1 rfl (op_assign rfl) ?_
      refine JL_nil ?_
      refine JQ_then (JC_seq (JC_seq ?_))
      refine JC_region ?_
      refine JL_1 rfl (op_move rfl) ?_
      refine JL_1 rfl (op_not (Ev.rfl' rfl)) ?_
      refine JL_1 rfl (op_move rfl) ?_
      (first | refine JL_i0 rfl rfl rfl (fun hg => (by have hg0 := hg; (try simp at hg); first | exact op_moveE (Ev.sub rfl (SubL.iteT (by first | assumption | (simp; done) | (simp; omega) | (simp_all; done)) SubL.rfl')) | exact op_moveE (Ev.rfl' rfl))) ?_ | refine JL_i rfl rfl rfl (fun hp hg => (by have hpg := Bool.and_eq_true_iff.2 ⟨hp, hg⟩; have hg0 := hg; (try simp at hg); first | exact op_moveE (Ev.sub rfl (SubL.iteT (by first | assumption | (simp; done) | (simp; omega) | (simp_all; done)) SubL.rfl')) | exact op_moveE (Ev.rfl' rfl))) ?_)
      (first | refine JL_i0 rfl rfl rfl (fun hg => (by have hg0 := hg; (try simp at hg); exact op_neq evG evG)) ?_ | refine JL_i rfl rfl rfl (fun hp hg => (by have hpg := Bool.and_eq_true_iff.2 ⟨hp, hg⟩; have hg0 := hg; (try simp at hg); exact op_neq evG evG)) ?_)
      refine JL_1 rfl (op_or (Ev.rfl' rfl) rfl (fun h => by first | exact SubL.rfl' | exact SubL.iteT (by first | (rw [h]; rfl) | (simp_all; done)) SubL.rfl')) ?_
      refine JL_1 rfl (op_move rfl) ?_
      (first | refine JL_i0 rfl rfl rfl (fun hg => (by have hg0 := hg; (try simp at hg); first | exact op_moveE (Ev.sub rfl (SubL.iteT (by first | assumption | (simp; done) | (simp; omega) | (simp_all; done)) SubL.rfl')) | exact op_moveE (Ev.rfl' rfl))) ?_ | refine JL_i rfl rfl rfl (fun hp hg => (by have hpg := Bool.and_eq_true_iff.2 ⟨hp, hg⟩; have hg0 := hg; (try simp at hg); first | exact op_moveE (Ev.sub rfl (SubL.iteT (by first | assumption | (simp; done) | (simp; omega) | (simp_all; done)) SubL.rfl')) | exact op_moveE (Ev.rfl' rfl))) ?_)
      (first | refine JL_i0 rfl rfl rfl (fun hg => (by have hg0 := hg; (try simp at hg); first | exact op_moveE (Ev.sub rfl (SubL.iteT (by first | assumption | (simp; done) | (simp; omega) | (simp_all; done)) SubL.rfl')) | exact op_moveE (Ev.rfl' rfl))) ?_ | refine JL_i rfl rfl rfl (fun hp hg => (by have hpg := Bool.and_eq_true_iff.2 ⟨hp, hg⟩; have hg0 := hg; (try simp at hg); first | exact op_moveE (Ev.sub rfl (SubL.iteT (by first | assumption | (simp; done) | (simp; omega) | (simp_all; done)) SubL.rfl')) | exact op_moveE (Ev.rfl' rfl))) ?_)
      (first | refine JL_i0 rfl rfl rfl (fun hg => (by have hg0 := hg; (try simp at hg); first | exact op_indexBuf (k := s) evG memT evG rfl rfl idxT lenT | exact op_index (j := _) evG evG rfl rfl (by first | rfl | omega) hz | exact op_index (j := _) evG evG rfl rfl (by first | rfl | omega) (by assumption))) ?_ | refine JL_i rfl rfl rfl (fun hp hg => (by have hpg := Bool.and_eq_true_iff.2 ⟨hp, hg⟩; have hg0 := hg; (try simp at hg); first | exact op_indexBuf (k := s) evG memT evG rfl rfl idxT lenT | exact op_index (j := _) evG evG rfl rfl (by first | rfl | omega) hz | exact op_index (j := _) evG evG rfl rfl (by first | rfl | omega) (by assumption))) ?_)
      (first | refine JL_i0 rfl rfl rfl (fun hg => (by have hg0 := hg; (try simp at hg); first | exact op_loadBuf evG memT how rfl rfl (by rfl) | exact op_loadBuf0 evG memT how rfl rfl (by rfl) | exact op_loadRef evG rfl rfl rfl | exact op_loadPtr evG memT (by rfl) (by rfl) (by rfl))) ?_ | refine JL_i rfl rfl rfl (fun hp hg => (by have hpg := Bool.and_eq_true_iff.2 ⟨hp, hg⟩; have hg0 := hg; (try simp at hg); first | exact op_loadBuf evG memT how rfl rfl (by rfl) | exact op_loadBuf0 evG memT how rfl rfl (by rfl) | exact op_loadRef evG rfl rfl rfl | exact op_loadPtr evG memT (by rfl) (by rfl) (by rfl))) ?_)
      (first | refine JL_i0 rfl rfl rfl (fun hg => (by have hg0 := hg; (try simp at hg); first | exact op_moveE (Ev.sub rfl (SubL.iteT (by first | assumption | (simp; done) | (simp; omega) | (simp_all; done)) SubL.rfl')) | exact op_moveE (Ev.rfl' rfl))) ?_ | refine JL_i rfl rfl rfl (fun hp hg => (by have hpg := Bool.and_eq_true_iff.2 ⟨hp, hg⟩; have hg0 := hg; (try simp at hg); first | exact op_moveE (Ev.sub rfl (SubL.iteT (by first | assumption | (simp; done) | (simp; omega) | (simp_all; done)) SubL.rfl')) | exact op_moveE (Ev.rfl' rfl))) ?_)
      (first | refine JL_i0 rfl rfl rfl (fun hg => (by have hg0 := hg; (try simp at hg); exact op_add evG evG wrapT)) ?_ | refine JL_i rfl rfl rfl (fun hp hg => (by have hpg := Bool.and_eq_true_iff.2 ⟨hp, hg⟩; have hg0 := hg; (try simp at hg); exact op_add evG evG wrapT)) ?_)
      (first | refine JL_i0 rfl rfl rfl (fun hg => (by have hg0 := hg; (try simp at hg); exact op_neq evG evG)) ?_ | refine JL_i rfl rfl rfl (fun hp hg => (by have hpg := Bool.and_eq_true_iff.2 ⟨hp, hg⟩; have hg0 := hg; (try simp at hg); exact op_neq evG evG)) ?_)
      refine JL_1 rfl (op_or (Ev.rfl' rfl) rfl (fun h => by first | exact SubL.rfl' | exact SubL.iteT (by first | (rw [h]; rfl) | (simp_all; done)) SubL.rfl')) ?_
      refine JL_nil ?_
      refine JQ_then ?_
      refine JC_cond (Ev.rfl' rfl) (fun h36 => ?_) (fun h36 => ?_)
      · exact absurd h36 (by simp)
      clear h36
      refine JC_skip (JQ_then (JC_seq (JC_seq ?_)))
      refine JC_region ?_
      refine JL_1 rfl (op_assign rfl) ?_
      refine JL_nil ?_
      refine JQ_then (JC_block ?_)
      refine JC_loopP (fun m : Nat => m ≤ ot.length) (fun m => [(1, IsSl tMv l), (5, Is (.pointer (some ⟨b, 0, none⟩))), (6, Is (slV ot.length a4)), (7, Is (slV 12 (some ⟨i46, 0, none⟩, 12))), (8, Is (.int .i64 (i : Nat))), (9, Is (.int .i64 (cl : Nat))), (17, IsSl tPg P), (26, Is (.int .i64 (j : Nat))), (30, Is (.pointer (some ⟨i30, 0, none⟩))), (32, Is (.int .i64 (m : Nat)))]) (fun _ => [blk b 80 (heapC (slV (8 + 16 * n) s0) (96 + ((8 + 16 * n : Nat) : Int))), buf (slV (8 + 16 * n) s0) 25 tPg H', buf (slV 12 (some ⟨i46, 0, none⟩, 12)) 3 tI64 ow, buf (slV (ot).length a4) 100 tPt ot, blk i30 25 (tPg.cells tp)]) (fun m => ot.length - m) 0 (Nat.zero_le _) esubT lessT ?_
      rintro m hm
      refine JC_seq (JC_seq ?_)
      refine JC_region ?_
      refine JL_1 rfl (op_move rfl) ?_
      refine JL_1 rfl (op_move rfl) ?_
      refine JL_1 rfl (by first | exact op_len (Ev.rfl' rfl) rfl | exact op_lenLit (Ev.rfl' rfl) rfl) ?_
      refine JL_1 rfl (op_lss (Ev.rfl' rfl) (Ev.rfl' rfl)) ?_
      refine JL_nil ?_
      refine JQ_then ?_
      refine JC_cond (Ev.rfl' rfl) (fun h39 => ?_) (fun h39 => ?_)
      · have hlt3 : m < ot.length := by have := of_decide_eq_true h39; omega
        clear h39
        obtain ⟨v, hv⟩ : ∃ v, ot[m]? = some v := ⟨ot[m], List.getElem?_eq_getElem hlt3⟩
        refine JC_skip (JQ_then (JC_seq (JC_block (JC_seq ?_))))
        refine JC_dr rfl (by kernel_rfl) ?_
        refine JD_stretch 9 (by kernel_rfl) ?_
        refine JW_1 (op_move rfl) ?_
        refine JW_1 (op_move rfl) ?_
        refine JW_1 (by first | exact op_indexBuf (k := m) (Ev.rfl' rfl) memT (Ev.rfl' rfl) rfl rfl idxT lenT | exact op_index (j := _) (Ev.rfl' rfl) (Ev.rfl' rfl) rfl rfl (by first | rfl | omega) hz | exact op_index (j := _) (Ev.rfl' rfl) (Ev.rfl' rfl) rfl rfl (by first | rfl | omega) (by assumption)) ?_
        refine JW_1 (by first | exact op_fieldPtr (k := 0) (Ev.rfl' rfl) rfl rfl rfl rfl | exact op_fieldRefN (k := 0) (Ev.rfl' rfl) rfl rfl rfl rfl nrmT | exact op_fieldBuf (k := 0) (Ev.rfl' rfl) memT lenT rfl rfl rfl rfl) ?_
        refine JW_1 (by first | exact op_fieldPtr (k := 0) (Ev.rfl' rfl) rfl rfl rfl rfl | exact op_fieldRefN (k := 0) (Ev.rfl' rfl) rfl rfl rfl rfl nrmT | exact op_fieldBuf (k := 0) (Ev.rfl' rfl) memT lenT rfl rfl rfl rfl) ?_
        refine JW_1 (by first | exact op_loadBuf (Ev.rfl' rfl) memT hv rfl rfl (by rfl) | exact op_loadBuf0 (Ev.rfl' rfl) memT hv rfl rfl (by rfl) | exact op_loadRef (Ev.rfl' rfl) rfl rfl rfl | exact op_loadPtr (Ev.rfl' rfl) memT (by rfl) (by rfl) (by rfl)) ?_
        refine JW_1 (by first | exact op_fieldPtr (k := 0) (Ev.rfl' rfl) rfl rfl rfl rfl | exact op_fieldRefN (k := 0) (Ev.rfl' rfl) rfl rfl rfl rfl nrmT | exact op_fieldBuf (k := 0) (Ev.rfl' rfl) memT lenT rfl rfl rfl rfl) ?_
        refine JW_1 (by first | exact op_loadBuf (Ev.rfl' rfl) memT hv rfl rfl (by rfl) | exact op_loadBuf0 (Ev.rfl' rfl) memT hv rfl rfl (by rfl) | exact op_loadRef (Ev.rfl' rfl) rfl rfl rfl | exact op_loadPtr (Ev.rfl' rfl) memT (by rfl) (by rfl) (by rfl)) ?_
        refine JW_1 (op_eql (Ev.rfl' rfl) (Ev.rfl' rfl)) ?_
        refine ⟨rfl, ?_⟩
        refine JD_end ?_
        refine JQ_then ?_
        refine JC_cond (Ev.rfl' rfl) (fun h41 => ?_) (fun h41 => ?_)
        · exact absurd (show v.line = z.l by rw [← htl]; simpa using h41) (hne v (List.mem_of_getElem? hv))
        clear h41
        refine JC_skip (JQ_block (JQ_then ?_))
        refine JC_region ?_
        refine JL_1 rfl (op_move rfl) ?_
        refine JL_1 rfl (op_add (Ev.rfl' rfl) (Ev.rfl' rfl) wrapT) ?_
        refine JL_1 rfl (op_assign rfl) ?_
        refine JL_nil ?_
        exact JQ_roundP (m + 1) (by omega) (by omega) esubT lessT
      clear h39
      refine JC_exit (JQ_then_exit (JQ_then_exit (JQ_hit (JQ_then (JC_seq ?_)))))
      refine JC_region ?_
      refine JL_1 rfl (op_move rfl) ?_
      refine JL_1 rfl (by first | exact op_loadRefsN (n := 9) (Ev.rfl' rfl) rfl rfl rfl (by rfl) nrmT | exact op_loadPtrsN (n := 9) (Ev.rfl' rfl) memT (by rfl) (by rfl) (by rfl) (by rfl) nrmT) ?_
      refine JL_1 rfl (op_call Try.call43 (At_ok _) ⟨evS, trivial⟩) ?_
      refine JL_1 rfl (op_buildN (qs := [(0, _)]) rfl rfl rfl rfl ⟨⟨rfl, _, (Ev.rfl' rfl), cellsT⟩, trivial⟩ (by rfl) nrmT) ?_
      refine JL_1 rfl (op_buildSlice (size := 2) (qs := [(0, _)]) rfl rfl rfl ⟨⟨rfl, _, (Ev.rfl' rfl), cellsT⟩, trivial⟩ (by rfl) (by rfl)) ?_
      (refine JL_s rfl (op_app (Ev.rfl' rfl) (fun _ => replT) (by first | exact Ev.rfl' rfl | exact Ev.sub rfl (by first | exact SubL.row (xs := [⟨tp.l, genV tp.d0⟩]) (by rfl) (by rfl) subsT | exact subT)) (by exact appT rfl rfl rfl) lenT) ?_; intro i280)
      refine JL_1 rfl (op_assign rfl) ?_
      refine JL_nil ?_
      refine JQ_then ?_
      refine JC_region ?_
      refine JL_1 rfl (op_move rfl) ?_
      refine JL_1 rfl (by first | exact op_loadRefsN (n := 9) (Ev.rfl' rfl) rfl rfl rfl (by rfl) nrmT | exact op_loadPtrsN (n := 9) (Ev.rfl' rfl) memT (by rfl) (by rfl) (by rfl) (by rfl) nrmT) ?_
      refine JL_1 rfl (op_buildSlice (size := 9) (qs := [(0, _)]) rfl rfl rfl ⟨⟨rfl, _, (Ev.rfl' rfl), cellsT⟩, trivial⟩ (by rfl) (by rfl)) ?_
      (refine JL_s rfl (op_callT2 drop1T drop1T Try.call39 (hcom) ⟨evS, ⟨evS, trivial⟩⟩) ?_; intro i284)
      refine JL_nil ?_
      refine JQ_block (JQ_then ?_)
      refine JC_region ?_
      refine JL_1 rfl (op_move rfl) ?_
      refine JL_1 rfl (op_add (Ev.rfl' rfl) (Ev.rfl' rfl) wrapT) ?_
      refine JL_1 rfl (op_assign rfl) ?_
      refine JL_nil ?_
      exact JQ_roundP ((j + 1, ot ++ [⟨tp.l, genV tp.d0⟩], comP H' tp), i280) ⟨by dsimp only; omega, by rw [htl]; exact hF', by dsimp only; rw [List.length_append, List.length_singleton]; omega⟩ (by dsimp only; omega) esubT lessT
    have hje : 1 + k0 = j := by have := of_decide_eq_false h32; omega
    subst hje
    clear h32
    rw [show pk.drop (1 + k0) = [] from List.drop_eq_nil_of_le (by omega)] at hF
    refine JC_exit (JQ_then_exit (JQ_then_exit (JQ_hit (JQ_block (JQ_then ?_)))))
    refine JC_region ?_
    refine JL_1 rfl (op_move rfl) ?_
    refine JL_1 rfl (op_add (Ev.rfl' rfl) (Ev.rfl' rfl) wrapT) ?_
    refine JL_1 rfl (op_assign rfl) ?_
    refine JL_nil ?_
    first
      | exact JQ_roundP ((i + 1, ow, out.take k ++ out.drop (k + 1), comP (comP H wh) w), i115) ⟨by dsimp only; omega, hO', hnl⟩ (by dsimp only; omega) esubT lessT
      | exact JQ_roundP ((i + 1, ow.set s ((cl : Int) + 1), out, comP (comP H w1) w2), a) ⟨by dsimp only; omega, hA, by dsimp only; omega⟩ (by dsimp only; omega) esubT lessT
      | exact JQ_roundP ((i + 1, ow, out, H), a) ⟨by dsimp only; omega, hA, by dsimp only; omega⟩ (by dsimp only; omega) esubT lessT
      | exact JQ_roundP ((i + 1, ow, ot, H'), a4) ⟨by dsimp only; omega, on_end hF, by dsimp only; omega⟩ (by dsimp only; omega) esubT lessT
  refine JC_exit (JQ_then_exit (JQ_then_exit (JQ_hit (JQ_then (JC_seq ?_)))))
  refine JC_region ?_
  refine JL_1 rfl (op_assign rfl) ?_
  refine JL_nil ?_
  refine JQ_then (JC_ret ?_)
  refine JQ_ret1 Try.results8 rfl () (SubL.eq ?_) (List.nil_sublist _)
  rfl
end Go.Proofs.Ytpfojangcgffkaa
