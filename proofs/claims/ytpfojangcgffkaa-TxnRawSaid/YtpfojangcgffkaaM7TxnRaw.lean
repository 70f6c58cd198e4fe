/- Texts of this claim, laid together (part 7): walks of functions, what they compute, and plain laws of it. Own work. -/
import Derived.Test.YtpfojangcgffkaaM6TxnRaw
/- The law TxnRaw: its walk. Own work. -/
namespace Go.Proofs.Ytpfojangcgffkaa
open Go.RowKit
set_option linter.unusedVariables false
set_option linter.unusedSimpArgs false
set_option maxRecDepth 100000
/-! ### The plain law -/
@[reducible] def AscI (l : List Int) : Prop := l.Pairwise fun x y => x < y
theorem mem_lines {x : Int} : ∀ {l : List Int} {y : Int}, y ∈ linesV l x ↔ y = x ∨ y ∈ l
  | [], y => by simp [linesV]
  | z :: l, y => by
    unfold linesV
    split
    · rw [List.mem_cons, mem_lines, List.mem_cons]
      constructor
      · rintro (h | h | h)
        · exact .inr (.inl h)
        · exact .inl h
        · exact .inr (.inr h)
      · rintro (h | h | h)
        · exact .inr (.inl h)
        · exact .inl h
        · exact .inr (.inr h)
    · split
      · rename_i he
        subst he
        rw [List.mem_cons]
        constructor
        · exact .inr
        · rintro (h | h)
          · exact .inl h
          · exact h
      · rw [List.mem_cons]
theorem asc_lines {x : Int} : ∀ {l : List Int}, AscI l → AscI (linesV l x)
  | [], _ => List.pairwise_singleton _ _
  | z :: l, h => by
    obtain ⟨h1, h2⟩ := List.pairwise_cons.1 h
    unfold linesV
    split
    · rename_i hz
      refine List.pairwise_cons.2 ⟨fun y hy => ?_, asc_lines h2⟩
      rcases mem_lines.1 hy with rfl | h3
      · exact hz
      · exact h1 y h3
    · rename_i hz
      split
      · exact h
      · rename_i he
        refine List.pairwise_cons.2 ⟨fun y hy => ?_, h⟩
        rcases List.mem_cons.1 hy with rfl | hy
        · omega
        · have := h1 y hy; omega
theorem mem_foldL {y : Int} : ∀ {ls W : List Int}, y ∈ foldL W ls ↔ y ∈ W ∨ y ∈ ls
  | [], W => by simp [foldL]
  | x :: ls, W => by
    have e : foldL W (x :: ls) = foldL (linesV W x) ls := rfl
    rw [e, mem_foldL, mem_lines, List.mem_cons]
    constructor
    · rintro ((h | h) | h)
      · exact .inr (.inl h)
      · exact .inl h
      · exact .inr (.inr h)
    · rintro (h | h | h)
      · exact .inl (.inr h)
      · exact .inl (.inl h)
      · exact .inr h
theorem asc_foldL : ∀ {ls W : List Int}, AscI W → AscI (foldL W ls)
  | [], _, h => h
  | x :: ls, W, h => by
    have e : foldL W (x :: ls) = foldL (linesV W x) ls := rfl
    rw [e]
    exact asc_foldL (asc_lines h)
theorem ascI_ext : ∀ {xs ys : List Int}, AscI xs → AscI ys → (∀ x, x ∈ xs ↔ x ∈ ys) → xs = ys
  | [], [], _, _, _ => rfl
  | [], y :: ys, _, _, h => by have := (h y).2 (List.mem_cons_self ..); simp at this
  | x :: xs, [], _, _, h => by have := (h x).1 (List.mem_cons_self ..); simp at this
  | x :: xs, y :: ys, h1, h2, h => by
    obtain ⟨a1, a2⟩ := List.pairwise_cons.1 h1
    obtain ⟨b1, b2⟩ := List.pairwise_cons.1 h2
    have hxy : x = y := by
      rcases List.mem_cons.1 ((h x).1 (List.mem_cons_self ..)) with e | hx
      · exact e
      · rcases List.mem_cons.1 ((h y).2 (List.mem_cons_self ..)) with e | hy
        · exact e.symm
        · have := b1 x hx; have := a1 y hy; omega
    subst hxy
    refine congrArg _ (ascI_ext a2 b2 fun z => ⟨fun hz => ?_, fun hz => ?_⟩)
    · rcases List.mem_cons.1 ((h z).1 (List.mem_cons_of_mem _ hz)) with e | hz'
      · subst e; have := a1 z hz; omega
      · exact hz'
    · rcases List.mem_cons.1 ((h z).2 (List.mem_cons_of_mem _ hz)) with e | hz'
      · subst e; have := b1 z hz; omega
      · exact hz'
theorem lat_mem {ws : List Pg} {l : Int} : latB ws l = true ↔ l ∈ ws.map Pg.l := by
  unfold latB latO
  rw [Option.isSome_iff_ne_none, Ne, List.getLast?_eq_none_iff, List.mem_map]
  constructor
  · intro h
    obtain ⟨p, hp⟩ := List.exists_mem_of_ne_nil _ h
    rw [List.mem_filter] at hp
    exact ⟨p, hp.1, by simpa using hp.2⟩
  · rintro ⟨p, hp, rfl⟩ hnil
    have : p ∈ ws.filter (fun q => decide (q.l = p.l)) := List.mem_filter.2 ⟨hp, by simp⟩
    rw [hnil] at this
    cases this
theorem mem_moL {m : Mo} {l : Int} : l ∈ moL m ↔ l ∈ m.chk ++ m.wr.map Pg.l := by
  unfold moL
  rw [mem_foldL, mem_foldL, List.mem_append]
  simp
theorem any_mem {f : Int → Bool} {xs ys : List Int} (h : ∀ l, l ∈ xs ↔ l ∈ ys) : xs.any f = ys.any f := by
  rw [Bool.eq_iff_iff, List.any_eq_true, List.any_eq_true]
  exact ⟨fun ⟨l, h1, h2⟩ => ⟨l, (h l).1 h1, h2⟩, fun ⟨l, h1, h2⟩ => ⟨l, (h l).2 h1, h2⟩⟩
theorem sets_same {x : Tx} {m : Mo} (h1 : m.base = x.base) (h2 : m.wr = x.wr) (h3 : m.chk = x.chk) (ha : AscI x.chk) : setsV x (conL x) x.chk = setsV (moX m) (moL m) (moL m) := by
  obtain ⟨mb, mw, mc⟩ := m
  dsimp only at h1 h2 h3
  subst h1 h2 h3
  have hm : ∀ l, l ∈ moL ⟨x.base, x.wr, x.chk⟩ ↔ l ∈ conL x := fun l => mem_moL
  have hr : rdL (moX ⟨x.base, x.wr, x.chk⟩) (moL ⟨x.base, x.wr, x.chk⟩) = rdL x x.chk := by
    have e : (moL ⟨x.base, x.wr, x.chk⟩).filter (fun l => !latB x.wr l) = x.chk.filter fun l => !latB x.wr l := by
      refine ascI_ext (List.Pairwise.filter _ (asc_foldL (asc_foldL List.Pairwise.nil))) (List.Pairwise.filter _ ha) fun l => ?_
      rw [List.mem_filter, List.mem_filter, hm]
      unfold conL
      rw [List.mem_append]
      constructor
      · rintro ⟨h4 | h4, h5⟩
        · exact ⟨h4, h5⟩
        · rw [lat_mem.2 h4] at h5; cases h5
      · rintro ⟨h4, h5⟩
        exact ⟨.inl h4, h5⟩
    unfold rdL
    exact congrArg (fun s : List Int => s.map fun l => (⟨l, (latP x.base l).h⟩ : Sn)) e
  unfold setsV
  rw [hr, any_mem hm, any_mem hm]
  rfl
theorem mergeV_one (W : List Pg) (p : Pg) (k : Nat) (h : W.length ≤ k) : (mergeV W [p]).length ≤ k + 1 := by
  have := merge_len W [p]
  simp only [List.length_singleton] at this
  omega
-- bodegalaw28.TxnRaw: function 9
set_option maxHeartbeats 2000000 in
theorem TxnRaw_ok (t : Tx) (near : Bool) : FnP Try.prog 9 [IsTx t, Is (.bool near)] (Is (.bool true)) := by
  refine FnP.enter Try.func9 Try.ntmps9 rfl rfl ?_
  intro c hX
  refine JC_seq ?_
  refine JC_region ?_
  (refine JL_n rfl (op_box (Ev.rfl' rfl) cellsT) ?_; intro i2)
  refine JL_1 rfl (op_assign rfl) ?_
  refine JL_nil ?_
  refine JQ_then (JC_seq (JC_seq ?_))
  refine JC_region ?_
  refine JL_1 rfl (by first | exact op_fieldPtr (k := 2) (Ev.rfl' rfl) rfl rfl rfl rfl | exact op_fieldRefN (k := 2) (Ev.rfl' rfl) rfl rfl rfl rfl nrmT) ?_
  refine JL_1 rfl (by first | exact op_loadRef (Ev.rfl' rfl) rfl rfl rfl | exact op_loadPtr (Ev.rfl' rfl) memT (by rfl) (by rfl) (by rfl)) ?_
  refine JL_1 rfl (by first | exact op_len (Ev.rfl' rfl) rfl | exact op_lenLit (Ev.rfl' rfl) rfl) ?_
  refine JL_1 rfl (op_gtr (Ev.rfl' rfl) (Ev.rfl' rfl)) ?_
  refine JL_1 rfl (op_move rfl) ?_
  (first | refine JL_i0 rfl rfl rfl (fun hg => (by have hg0 := hg; (try simp at hg); first | exact op_fieldPtr (k := 3) evG rfl rfl rfl rfl | exact op_fieldRefN (k := 3) evG rfl rfl rfl rfl nrmT)) ?_ | refine JL_i rfl rfl rfl (fun hp hg => (by have hpg := Bool.and_eq_true_iff.2 ⟨hp, hg⟩; have hg0 := hg; (try simp at hg); first | exact op_fieldPtr (k := 3) evG rfl rfl rfl rfl | exact op_fieldRefN (k := 3) evG rfl rfl rfl rfl nrmT)) ?_)
  (first | refine JL_i0 rfl rfl rfl (fun hg => (by have hg0 := hg; (try simp at hg); first | exact op_loadRef evG rfl rfl rfl | exact op_loadPtr evG memT (by rfl) (by rfl) (by rfl))) ?_ | refine JL_i rfl rfl rfl (fun hp hg => (by have hpg := Bool.and_eq_true_iff.2 ⟨hp, hg⟩; have hg0 := hg; (try simp at hg); first | exact op_loadRef evG rfl rfl rfl | exact op_loadPtr evG memT (by rfl) (by rfl) (by rfl))) ?_)
  (first | refine JL_i0 rfl rfl rfl (fun hg => (by have hg0 := hg; (try simp at hg); first | exact op_len evG rfl | exact op_lenLit evG rfl)) ?_ | refine JL_i rfl rfl rfl (fun hp hg => (by have hpg := Bool.and_eq_true_iff.2 ⟨hp, hg⟩; have hg0 := hg; (try simp at hg); first | exact op_len evG rfl | exact op_lenLit evG rfl)) ?_)
  (first | refine JL_i0 rfl rfl rfl (fun hg => (by have hg0 := hg; (try simp at hg); exact op_gtr evG evG)) ?_ | refine JL_i rfl rfl rfl (fun hp hg => (by have hpg := Bool.and_eq_true_iff.2 ⟨hp, hg⟩; have hg0 := hg; (try simp at hg); exact op_gtr evG evG)) ?_)
  refine JL_1 rfl (op_or (Ev.rfl' rfl) rfl (fun h => by first | exact SubL.rfl' | exact SubL.iteT (by first | (rw [h]; rfl) | (simp_all; done)) SubL.rfl')) ?_
  refine JL_1 rfl (op_move rfl) ?_
  (first | refine JL_i0 rfl rfl rfl (fun hg => (by have hg0 := hg; (try simp at hg); first | exact op_fieldPtr (k := 4) evG rfl rfl rfl rfl | exact op_fieldRefN (k := 4) evG rfl rfl rfl rfl nrmT)) ?_ | refine JL_i rfl rfl rfl (fun hp hg => (by have hpg := Bool.and_eq_true_iff.2 ⟨hp, hg⟩; have hg0 := hg; (try simp at hg); first | exact op_fieldPtr (k := 4) evG rfl rfl rfl rfl | exact op_fieldRefN (k := 4) evG rfl rfl rfl rfl nrmT)) ?_)
  (first | refine JL_i0 rfl rfl rfl (fun hg => (by have hg0 := hg; (try simp at hg); first | exact op_loadRef evG rfl rfl rfl | exact op_loadPtr evG memT (by rfl) (by rfl) (by rfl))) ?_ | refine JL_i rfl rfl rfl (fun hp hg => (by have hpg := Bool.and_eq_true_iff.2 ⟨hp, hg⟩; have hg0 := hg; (try simp at hg); first | exact op_loadRef evG rfl rfl rfl | exact op_loadPtr evG memT (by rfl) (by rfl) (by rfl))) ?_)
  (first | refine JL_i0 rfl rfl rfl (fun hg => (by have hg0 := hg; (try simp at hg); first | exact op_len evG rfl | exact op_lenLit evG rfl)) ?_ | refine JL_i rfl rfl rfl (fun hp hg => (by have hpg := Bool.and_eq_true_iff.2 ⟨hp, hg⟩; have hg0 := hg; (try simp at hg); first | exact op_len evG rfl | exact op_lenLit evG rfl)) ?_)
  (first | refine JL_i0 rfl rfl rfl (fun hg => (by have hg0 := hg; (try simp at hg); exact op_gtr evG evG)) ?_ | refine JL_i rfl rfl rfl (fun hp hg => (by have hpg := Bool.and_eq_true_iff.2 ⟨hp, hg⟩; have hg0 := hg; (try simp at hg); exact op_gtr evG evG)) ?_)
  refine JL_1 rfl (op_or (Ev.rfl' rfl) rfl (fun h => by first | exact SubL.rfl' | exact SubL.iteT (by first | (rw [h]; rfl) | (simp_all; done)) SubL.rfl')) ?_
  refine JL_nil ?_
  refine JQ_then ?_
  refine JC_cond (Ev.rfl' rfl) (fun h1 => ?_) (fun h1 => ?_)
  · refine JC_seq ?_
    refine JC_region ?_
    refine JL_1 rfl (op_assign rfl) ?_
    refine JL_nil ?_
    refine JQ_then (JC_ret (JQ_then_ret ?_))
    refine JQ_ret1 Try.results9 rfl () (SubL.eq ?_) (List.nil_sublist _)
    rfl
  have hab : t.base.length ≤ 30 ∧ t.chk.length ≤ 30 ∧ t.wr.length ≤ 30 := by simp at h1; omega
  clear h1
  refine JC_skip (JQ_then (JC_seq ?_))
  refine JC_region ?_
  refine JL_1 rfl (by first | exact op_fieldPtr (k := 0) (Ev.rfl' rfl) rfl rfl rfl rfl | exact op_fieldRefN (k := 0) (Ev.rfl' rfl) rfl rfl rfl rfl nrmT) ?_
  refine JL_1 rfl (by first | exact op_loadRef (Ev.rfl' rfl) rfl rfl rfl | exact op_loadPtr (Ev.rfl' rfl) memT (by rfl) (by rfl) (by rfl)) ?_
  refine JL_1 rfl (by first | exact op_fieldPtr (k := 1) (Ev.rfl' rfl) rfl rfl rfl rfl | exact op_fieldRefN (k := 1) (Ev.rfl' rfl) rfl rfl rfl rfl nrmT) ?_
  refine JL_1 rfl (by first | exact op_loadRef (Ev.rfl' rfl) rfl rfl rfl | exact op_loadPtr (Ev.rfl' rfl) memT (by rfl) (by rfl) (by rfl)) ?_
  refine JL_1 rfl (op_buildN (qs := [(0, _), (1, _)]) rfl rfl rfl rfl ⟨⟨rfl, _, (Ev.rfl' rfl), cellsT⟩, ⟨⟨rfl, _, (Ev.rfl' rfl), cellsT⟩, trivial⟩⟩ (by rfl) nrmT) ?_
  (refine JL_n rfl (op_allocN rfl nrmT rfl) ?_; intro i5)
  refine JL_s0 (op_storeN (Ev.rfl' rfl) (Ev.rfl' rfl) cellsT replT nrmT (by rfl) (by rfl) (by rfl)) ?_
  refine JL_nil ?_
  refine JQ_then (JC_seq (JC_seq ?_))
  refine JC_freezeB hX (b := i2) replT ?_
  refine JC_set 2 (IsRef (txC t)) rfl (SubL.fact memT) ?_
  refine JC_blkSub (b := i5) (As := [Is (.int .i64 t.cl), Is (.int .i64 t.sq), Is (.slice none 0 0), Is (.slice none 0 0), Is (.slice none 0 0)]) (As' := txC ⟨t.cl, t.sq, [], [], []⟩) replT ⟨SubL.rfl', SubL.rfl', SubL.nil, SubL.nil, SubL.nil, trivial⟩ ?_
  refine JC_region ?_
  refine JL_1 rfl (op_assign rfl) ?_
  refine JL_nil ?_
  refine JQ_then (JC_block ?_)
  refine JC_loopP (fun z : Nat × List Pg => z.1 ≤ t.base.length ∧ z.2.length ≤ z.1) (fun z => [(1, Is (.bool near)), (2, IsRef (txC t)), (5, Is (.pointer (some ⟨i5, 0, none⟩))), (6, Is (.int .i64 (z.1 : Nat)))]) (fun z => [blk i5 105 (txC ⟨t.cl, t.sq, z.2, [], []⟩)]) (fun z => t.base.length - z.1) (0, []) ⟨Nat.zero_le _, Nat.le_refl _⟩ esubT lessT ?_
  rintro ⟨k, W⟩ ⟨hk, hW⟩
  dsimp only at hk hW ⊢
  refine JC_seq (JC_seq ?_)
  refine JC_region ?_
  refine JL_1 rfl (op_move rfl) ?_
  refine JL_1 rfl (by first | exact op_fieldPtr (k := 2) (Ev.rfl' rfl) rfl rfl rfl rfl | exact op_fieldRefN (k := 2) (Ev.rfl' rfl) rfl rfl rfl rfl nrmT) ?_
  refine JL_1 rfl (by first | exact op_loadRef (Ev.rfl' rfl) rfl rfl rfl | exact op_loadPtr (Ev.rfl' rfl) memT (by rfl) (by rfl) (by rfl)) ?_
  refine JL_1 rfl (by first | exact op_len (Ev.rfl' rfl) rfl | exact op_lenLit (Ev.rfl' rfl) rfl) ?_
  refine JL_1 rfl (op_lss (Ev.rfl' rfl) (Ev.rfl' rfl)) ?_
  refine JL_nil ?_
  refine JQ_then ?_
  refine JC_cond (Ev.rfl' rfl) (fun h5 => ?_) (fun h5 => ?_)
  · have hlt : k < t.base.length := by have := of_decide_eq_true h5; omega
    clear h5
    obtain ⟨p, hz⟩ : ∃ z, t.base[k]? = some z := ⟨t.base[k], List.getElem?_eq_getElem hlt⟩
    obtain ⟨d, hd⟩ : ∃ d : BitVec 64, IntKind.u64.wrap (((UV p.h).tmod 9).tdiv 8) = UV d := ⟨BitVec.ofInt 64 _, (UV_ofInt64 (wrr _)).symm⟩
    refine JC_skip (JQ_then (JC_seq (JC_block (JC_seq ?_))))
    refine JC_region ?_
    refine JL_1 rfl (by first | exact op_fieldPtr (k := 2) (Ev.rfl' rfl) rfl rfl rfl rfl | exact op_fieldRefN (k := 2) (Ev.rfl' rfl) rfl rfl rfl rfl nrmT) ?_
    refine JL_1 rfl (by first | exact op_loadRef (Ev.rfl' rfl) rfl rfl rfl | exact op_loadPtr (Ev.rfl' rfl) memT (by rfl) (by rfl) (by rfl)) ?_
    refine JL_1 rfl (op_move rfl) ?_
    refine JL_1 rfl (by first | exact op_index (j := _) (Ev.rfl' rfl) (Ev.rfl' rfl) rfl rfl (by first | rfl | omega) hz | exact op_index (j := _) (Ev.rfl' rfl) (Ev.rfl' rfl) rfl rfl (by first | rfl | omega) (by assumption)) ?_
    refine JL_1 rfl (by first | exact op_loadRefsN (n := 9) (Ev.rfl' rfl) rfl rfl rfl (by rfl) nrmT | exact op_loadPtrsN (n := 9) (Ev.rfl' rfl) memT (by rfl) (by rfl) (by rfl) (by rfl) nrmT) ?_
    (refine JL_n rfl (op_allocN rfl nrmT rfl) ?_; intro i7)
    refine JL_s0 (op_storeN (Ev.rfl' rfl) (Ev.rfl' rfl) cellsT replT nrmT (by rfl) (by rfl) (by rfl)) ?_
    refine JL_nil ?_
    refine JQ_then (JC_seq (JC_seq ?_))
    refine JC_region ?_
    refine JL_1 rfl (op_move rfl) ?_
    refine JL_nil ?_
    refine JQ_then ?_
    refine JC_cutT (fun q : Pg => True) (fun q => [(1, Is (.bool near)), (2, IsRef (txC t)), (5, Is (.pointer (some ⟨i5, 0, none⟩))), (6, Is (.int .i64 (k : Nat))), (7, Is (.pointer (some ⟨i7, 0, none⟩)))]) (fun q => [blk i5 105 (txC ⟨t.cl, t.sq, W, [], []⟩), blk i7 25 (tPg.cells q)]) ?_ ?_
    rotate_left
    focus
      refine JC_cond (Ev.rfl' rfl) (fun h8 => ?_) (fun h8 => ?_)
      · refine JC_dr rfl (by kernel_rfl) ?_
        refine JD_phase [1, 1, 1, 0, 1, 1, 0, 0, 1, 2, 1, 2] (by kernel_rfl) (by kernel_rfl) ?_
        refine PW_1 (by first | exact op_fieldPtr (k := 0) (Ev.rfl' rfl) rfl rfl rfl rfl | exact op_fieldRefN (k := 0) (Ev.rfl' rfl) rfl rfl rfl rfl nrmT) ?_
        refine PW_1 (by first | exact op_loadRef (Ev.rfl' rfl) rfl rfl rfl | exact op_loadPtr (Ev.rfl' rfl) memT (by rfl) (by rfl) (by rfl)) ?_
        refine PW_1 (by first | ((refine op_call Try.call14 (PickH_ok _ _ ?_ ?_) ⟨evS, ⟨evS, trivial⟩⟩); all_goals (first | omega))) ?_
        refine PW_0 (op_add (Ev.rfl' rfl) (Ev.rfl' rfl) wrapT) ?_
        refine PW_1 (by first | exact op_fieldPtr (k := 1) (Ev.rfl' rfl) rfl rfl rfl rfl | exact op_fieldRefN (k := 1) (Ev.rfl' rfl) rfl rfl rfl rfl nrmT) ?_
        refine PW_1 (by first | exact op_loadRef (Ev.rfl' rfl) rfl rfl rfl | exact op_loadPtr (Ev.rfl' rfl) memT (by rfl) (by rfl) (by rfl)) ?_
        refine PW_0 (op_rem (Ev.rfl' rfl) (Ev.rfl' rfl) (by omega) rfl) ?_
        refine PW_0 (op_quo (Ev.rfl' rfl) (Ev.rfl' rfl) (by omega) hd) ?_
        refine PW_1 (by first | exact op_fieldPtr (k := 0) (Ev.rfl' rfl) rfl rfl rfl rfl | exact op_fieldRefN (k := 0) (Ev.rfl' rfl) rfl rfl rfl rfl nrmT) ?_
        refine PW_2 (op_storeN (Ev.rfl' rfl) (Ev.rfl' rfl) cellsT replT nrmT (by rfl) (by rfl) (by rfl)) ?_
        refine PW_1 (by first | exact op_fieldPtr (k := 1) (Ev.rfl' rfl) rfl rfl rfl rfl | exact op_fieldRefN (k := 1) (Ev.rfl' rfl) rfl rfl rfl rfl nrmT) ?_
        refine PW_2 (op_storeN (Ev.rfl' rfl) (Ev.rfl' rfl) cellsT replT nrmT (by rfl) (by rfl) (by rfl)) ?_
        refine PW_end ?_
        refine JD_end ?_
        exact JQ_meetP { p with l := 100 + p.l % 12, h := d } trivial esubT lessT
      refine JC_skip ?_
      exact JQ_meetP p trivial esubT lessT
    rintro q _
    have hmo := mergeV_one W q k hW
    refine JC_region ?_
    refine JL_1 rfl (by first | exact op_fieldPtr (k := 2) (Ev.rfl' rfl) rfl rfl rfl rfl | exact op_fieldRefN (k := 2) (Ev.rfl' rfl) rfl rfl rfl rfl nrmT) ?_
    refine JL_1 rfl (by first | exact op_loadRef (Ev.rfl' rfl) rfl rfl rfl | exact op_loadPtr (Ev.rfl' rfl) memT (by rfl) (by rfl) (by rfl)) ?_
    refine JL_1 rfl (by first | exact op_loadRefsN (n := 9) (Ev.rfl' rfl) rfl rfl rfl (by rfl) nrmT | exact op_loadPtrsN (n := 9) (Ev.rfl' rfl) memT (by rfl) (by rfl) (by rfl) (by rfl) nrmT) ?_
    refine JL_1 rfl (op_buildSlice (size := 9) (qs := [(0, _)]) rfl rfl rfl ⟨⟨rfl, _, (Ev.rfl' rfl), cellsT⟩, trivial⟩ (by rfl) (by rfl)) ?_
    refine JL_1 rfl (by first | ((refine op_call Try.call35 (MergeR_ok W [q] ?_) ⟨evS, ⟨evS, trivial⟩⟩); all_goals (first | simp; omega))) ?_
    refine JL_1 rfl (by first | exact op_fieldPtr (k := 2) (Ev.rfl' rfl) rfl rfl rfl rfl | exact op_fieldRefN (k := 2) (Ev.rfl' rfl) rfl rfl rfl rfl nrmT) ?_
    refine JL_s0 (op_storeN (Ev.rfl' rfl) (Ev.rfl' rfl) cellsT replT nrmT (by rfl) (by rfl) (by rfl)) ?_
    refine JL_nil ?_
    refine JQ_block (JQ_then ?_)
    refine JC_region ?_
    refine JL_1 rfl (op_move rfl) ?_
    refine JL_1 rfl (op_add (Ev.rfl' rfl) (Ev.rfl' rfl) wrapT) ?_
    refine JL_1 rfl (op_assign rfl) ?_
    refine JL_nil ?_
    exact JQ_roundP (k + 1, mergeV W [q]) ⟨by dsimp only; omega, hmo⟩ (by dsimp only; omega) esubT lessT
  have hWl : W.length ≤ 30 := by omega
  clear h5 hk hW
  refine JC_exit (JQ_then_exit (JQ_then_exit (JQ_hit (JQ_then (JC_seq (JC_seq ?_))))))
  refine JC_region ?_
  refine JL_1 rfl (op_assign rfl) ?_
  refine JL_nil ?_
  refine JQ_then (JC_block ?_)
  refine JC_loopP (fun z : Nat × List Int => z.1 ≤ t.chk.length ∧ z.2.length ≤ z.1 ∧ AscI z.2) (fun z => [(1, Is (.bool near)), (2, IsRef (txC t)), (5, Is (.pointer (some ⟨i5, 0, none⟩))), (8, Is (.int .i64 (z.1 : Nat)))]) (fun z => [blk i5 105 (txC ⟨t.cl, t.sq, W, z.2, []⟩)]) (fun z => t.chk.length - z.1) (0, []) ⟨Nat.zero_le _, Nat.le_refl _, List.Pairwise.nil⟩ esubT lessT ?_
  rintro ⟨k2, C⟩ ⟨hk2, hC, hCa⟩
  dsimp only at hk2 hC hCa ⊢
  refine JC_seq (JC_seq ?_)
  refine JC_region ?_
  refine JL_1 rfl (op_move rfl) ?_
  refine JL_1 rfl (by first | exact op_fieldPtr (k := 3) (Ev.rfl' rfl) rfl rfl rfl rfl | exact op_fieldRefN (k := 3) (Ev.rfl' rfl) rfl rfl rfl rfl nrmT) ?_
  refine JL_1 rfl (by first | exact op_loadRef (Ev.rfl' rfl) rfl rfl rfl | exact op_loadPtr (Ev.rfl' rfl) memT (by rfl) (by rfl) (by rfl)) ?_
  refine JL_1 rfl (by first | exact op_len (Ev.rfl' rfl) rfl | exact op_lenLit (Ev.rfl' rfl) rfl) ?_
  refine JL_1 rfl (op_lss (Ev.rfl' rfl) (Ev.rfl' rfl)) ?_
  refine JL_nil ?_
  refine JQ_then ?_
  refine JC_cond (Ev.rfl' rfl) (fun h12 => ?_) (fun h12 => ?_)
  · have hlt : k2 < t.chk.length := by have := of_decide_eq_true h12; omega
    clear h12
    obtain ⟨l, hz⟩ : ∃ z, t.chk[k2]? = some z := ⟨t.chk[k2], List.getElem?_eq_getElem hlt⟩
    refine JC_skip (JQ_then (JC_seq (JC_block (JC_seq ?_))))
    refine JC_region ?_
    refine JL_1 rfl (by first | exact op_fieldPtr (k := 3) (Ev.rfl' rfl) rfl rfl rfl rfl | exact op_fieldRefN (k := 3) (Ev.rfl' rfl) rfl rfl rfl rfl nrmT) ?_
    refine JL_1 rfl (by first | exact op_loadRef (Ev.rfl' rfl) rfl rfl rfl | exact op_loadPtr (Ev.rfl' rfl) memT (by rfl) (by rfl) (by rfl)) ?_
    refine JL_1 rfl (op_move rfl) ?_
    refine JL_1 rfl (by first | exact op_index (j := _) (Ev.rfl' rfl) (Ev.rfl' rfl) rfl rfl (by first | rfl | omega) hz | exact op_index (j := _) (Ev.rfl' rfl) (Ev.rfl' rfl) rfl rfl (by first | rfl | omega) (by assumption)) ?_
    refine JL_1 rfl (by first | exact op_loadRef (Ev.rfl' rfl) rfl rfl rfl | exact op_loadPtr (Ev.rfl' rfl) memT (by rfl) (by rfl) (by rfl)) ?_
    refine JL_1 rfl (op_assign rfl) ?_
    refine JL_nil ?_
    refine JQ_then (JC_seq (JC_seq ?_))
    refine JC_region ?_
    refine JL_1 rfl (op_move rfl) ?_
    refine JL_nil ?_
    refine JQ_then ?_
    refine JC_cutT (fun q : Int => True) (fun q => [(1, Is (.bool near)), (2, IsRef (txC t)), (5, Is (.pointer (some ⟨i5, 0, none⟩))), (8, Is (.int .i64 (k2 : Nat))), (9, Is (.int .i64 q))]) (fun q => [blk i5 105 (txC ⟨t.cl, t.sq, W, C, []⟩)]) ?_ ?_
    rotate_left
    focus
      refine JC_cond (Ev.rfl' rfl) (fun h15 => ?_) (fun h15 => ?_)
      · refine JC_region ?_
        refine JL_1 rfl (op_move rfl) ?_
        refine JL_1 rfl (by first | ((refine op_call Try.call14 (PickH_ok _ _ ?_ ?_) ⟨evS, ⟨evS, trivial⟩⟩); all_goals (first | omega))) ?_
        refine JL_1 rfl (op_add (Ev.rfl' rfl) (Ev.rfl' rfl) wrapT) ?_
        refine JL_1 rfl (op_assign rfl) ?_
        refine JL_nil ?_
        exact JQ_meetP (100 + l % 12) trivial esubT lessT
      refine JC_skip ?_
      exact JQ_meetP l trivial esubT lessT
    rintro q _
    have hlo := lines_len C q
    refine JC_region ?_
    refine JL_1 rfl (by first | exact op_fieldPtr (k := 3) (Ev.rfl' rfl) rfl rfl rfl rfl | exact op_fieldRefN (k := 3) (Ev.rfl' rfl) rfl rfl rfl rfl nrmT) ?_
    refine JL_1 rfl (by first | exact op_loadRef (Ev.rfl' rfl) rfl rfl rfl | exact op_loadPtr (Ev.rfl' rfl) memT (by rfl) (by rfl) (by rfl)) ?_
    refine JL_1 rfl (op_move rfl) ?_
    refine JL_1 rfl (by first | ((refine op_call Try.call44 (Lines_ok C q ?_) ⟨evS, ⟨evS, trivial⟩⟩); all_goals (first | omega))) ?_
    refine JL_1 rfl (by first | exact op_fieldPtr (k := 3) (Ev.rfl' rfl) rfl rfl rfl rfl | exact op_fieldRefN (k := 3) (Ev.rfl' rfl) rfl rfl rfl rfl nrmT) ?_
    refine JL_s0 (op_storeN (Ev.rfl' rfl) (Ev.rfl' rfl) cellsT replT nrmT (by rfl) (by rfl) (by rfl)) ?_
    refine JL_nil ?_
    refine JQ_block (JQ_then ?_)
    refine JC_region ?_
    refine JL_1 rfl (op_move rfl) ?_
    refine JL_1 rfl (op_add (Ev.rfl' rfl) (Ev.rfl' rfl) wrapT) ?_
    refine JL_1 rfl (op_assign rfl) ?_
    refine JL_nil ?_
    exact JQ_roundP (k2 + 1, linesV C q) ⟨by dsimp only; omega, by dsimp only; omega, asc_lines hCa⟩ (by dsimp only; omega) esubT lessT
  have hCl : C.length ≤ 30 := by omega
  clear h12 hk2 hC
  refine JC_exit (JQ_then_exit (JQ_then_exit (JQ_hit (JQ_then (JC_seq (JC_seq ?_))))))
  refine JC_region ?_
  refine JL_1 rfl (op_assign rfl) ?_
  refine JL_nil ?_
  refine JQ_then (JC_block ?_)
  refine JC_loopP (fun z : Nat × List Pg => z.1 ≤ t.wr.length ∧ z.2.length ≤ z.1) (fun z => [(1, Is (.bool near)), (2, IsRef (txC t)), (5, Is (.pointer (some ⟨i5, 0, none⟩))), (10, Is (.int .i64 (z.1 : Nat)))]) (fun z => [blk i5 105 (txC ⟨t.cl, t.sq, W, C, z.2⟩)]) (fun z => t.wr.length - z.1) (0, []) ⟨Nat.zero_le _, Nat.le_refl _⟩ esubT lessT ?_
  rintro ⟨k3, V⟩ ⟨hk3, hV⟩
  dsimp only at hk3 hV ⊢
  refine JC_seq (JC_seq ?_)
  refine JC_region ?_
  refine JL_1 rfl (op_move rfl) ?_
  refine JL_1 rfl (by first | exact op_fieldPtr (k := 4) (Ev.rfl' rfl) rfl rfl rfl rfl | exact op_fieldRefN (k := 4) (Ev.rfl' rfl) rfl rfl rfl rfl nrmT) ?_
  refine JL_1 rfl (by first | exact op_loadRef (Ev.rfl' rfl) rfl rfl rfl | exact op_loadPtr (Ev.rfl' rfl) memT (by rfl) (by rfl) (by rfl)) ?_
  refine JL_1 rfl (by first | exact op_len (Ev.rfl' rfl) rfl | exact op_lenLit (Ev.rfl' rfl) rfl) ?_
  refine JL_1 rfl (op_lss (Ev.rfl' rfl) (Ev.rfl' rfl)) ?_
  refine JL_nil ?_
  refine JQ_then ?_
  refine JC_cond (Ev.rfl' rfl) (fun h19 => ?_) (fun h19 => ?_)
  · have hlt : k3 < t.wr.length := by have := of_decide_eq_true h19; omega
    clear h19
    obtain ⟨p, hz⟩ : ∃ z, t.wr[k3]? = some z := ⟨t.wr[k3], List.getElem?_eq_getElem hlt⟩
    refine JC_skip (JQ_then (JC_seq (JC_block (JC_seq ?_))))
    refine JC_region ?_
    refine JL_1 rfl (by first | exact op_fieldPtr (k := 4) (Ev.rfl' rfl) rfl rfl rfl rfl | exact op_fieldRefN (k := 4) (Ev.rfl' rfl) rfl rfl rfl rfl nrmT) ?_
    refine JL_1 rfl (by first | exact op_loadRef (Ev.rfl' rfl) rfl rfl rfl | exact op_loadPtr (Ev.rfl' rfl) memT (by rfl) (by rfl) (by rfl)) ?_
    refine JL_1 rfl (op_move rfl) ?_
    refine JL_1 rfl (by first | exact op_index (j := _) (Ev.rfl' rfl) (Ev.rfl' rfl) rfl rfl (by first | rfl | omega) hz | exact op_index (j := _) (Ev.rfl' rfl) (Ev.rfl' rfl) rfl rfl (by first | rfl | omega) (by assumption)) ?_
    refine JL_1 rfl (by first | exact op_loadRefsN (n := 9) (Ev.rfl' rfl) rfl rfl rfl (by rfl) nrmT | exact op_loadPtrsN (n := 9) (Ev.rfl' rfl) memT (by rfl) (by rfl) (by rfl) (by rfl) nrmT) ?_
    (refine JL_n rfl (op_allocN rfl nrmT rfl) ?_; intro i11)
    refine JL_s0 (op_storeN (Ev.rfl' rfl) (Ev.rfl' rfl) cellsT replT nrmT (by rfl) (by rfl) (by rfl)) ?_
    refine JL_nil ?_
    refine JQ_then (JC_seq (JC_seq ?_))
    refine JC_region ?_
    refine JL_1 rfl (op_move rfl) ?_
    refine JL_nil ?_
    refine JQ_then ?_
    refine JC_cutT (fun q : Pg => True) (fun q => [(1, Is (.bool near)), (2, IsRef (txC t)), (5, Is (.pointer (some ⟨i5, 0, none⟩))), (10, Is (.int .i64 (k3 : Nat))), (11, Is (.pointer (some ⟨i11, 0, none⟩)))]) (fun q => [blk i5 105 (txC ⟨t.cl, t.sq, W, C, V⟩), blk i11 25 (tPg.cells q)]) ?_ ?_
    rotate_left
    focus
      refine JC_cond (Ev.rfl' rfl) (fun h22 => ?_) (fun h22 => ?_)
      · refine JC_region ?_
        refine JL_1 rfl (by first | exact op_fieldPtr (k := 0) (Ev.rfl' rfl) rfl rfl rfl rfl | exact op_fieldRefN (k := 0) (Ev.rfl' rfl) rfl rfl rfl rfl nrmT) ?_
        refine JL_1 rfl (by first | exact op_loadRef (Ev.rfl' rfl) rfl rfl rfl | exact op_loadPtr (Ev.rfl' rfl) memT (by rfl) (by rfl) (by rfl)) ?_
        refine JL_1 rfl (by first | ((refine op_call Try.call14 (PickH_ok _ _ ?_ ?_) ⟨evS, ⟨evS, trivial⟩⟩); all_goals (first | omega))) ?_
        refine JL_1 rfl (op_add (Ev.rfl' rfl) (Ev.rfl' rfl) wrapT) ?_
        refine JL_1 rfl (by first | exact op_fieldPtr (k := 0) (Ev.rfl' rfl) rfl rfl rfl rfl | exact op_fieldRefN (k := 0) (Ev.rfl' rfl) rfl rfl rfl rfl nrmT) ?_
        refine JL_s0 (op_storeN (Ev.rfl' rfl) (Ev.rfl' rfl) cellsT replT nrmT (by rfl) (by rfl) (by rfl)) ?_
        refine JL_nil ?_
        exact JQ_meetP { p with l := 100 + p.l % 12 } trivial esubT lessT
      refine JC_skip ?_
      exact JQ_meetP p trivial esubT lessT
    rintro q _
    have hmo := mergeV_one V q k3 hV
    refine JC_region ?_
    refine JL_1 rfl (by first | exact op_fieldPtr (k := 4) (Ev.rfl' rfl) rfl rfl rfl rfl | exact op_fieldRefN (k := 4) (Ev.rfl' rfl) rfl rfl rfl rfl nrmT) ?_
    refine JL_1 rfl (by first | exact op_loadRef (Ev.rfl' rfl) rfl rfl rfl | exact op_loadPtr (Ev.rfl' rfl) memT (by rfl) (by rfl) (by rfl)) ?_
    refine JL_1 rfl (by first | exact op_loadRefsN (n := 9) (Ev.rfl' rfl) rfl rfl rfl (by rfl) nrmT | exact op_loadPtrsN (n := 9) (Ev.rfl' rfl) memT (by rfl) (by rfl) (by rfl) (by rfl) nrmT) ?_
    refine JL_1 rfl (op_buildSlice (size := 9) (qs := [(0, _)]) rfl rfl rfl ⟨⟨rfl, _, (Ev.rfl' rfl), cellsT⟩, trivial⟩ (by rfl) (by rfl)) ?_
    refine JL_1 rfl (by first | ((refine op_call Try.call35 (MergeR_ok V [q] ?_) ⟨evS, ⟨evS, trivial⟩⟩); all_goals (first | simp; omega))) ?_
    refine JL_1 rfl (by first | exact op_fieldPtr (k := 4) (Ev.rfl' rfl) rfl rfl rfl rfl | exact op_fieldRefN (k := 4) (Ev.rfl' rfl) rfl rfl rfl rfl nrmT) ?_
    refine JL_s0 (op_storeN (Ev.rfl' rfl) (Ev.rfl' rfl) cellsT replT nrmT (by rfl) (by rfl) (by rfl)) ?_
    refine JL_nil ?_
    refine JQ_block (JQ_then ?_)
    refine JC_region ?_
    refine JL_1 rfl (op_move rfl) ?_
    refine JL_1 rfl (op_add (Ev.rfl' rfl) (Ev.rfl' rfl) wrapT) ?_
    refine JL_1 rfl (op_assign rfl) ?_
    refine JL_nil ?_
    exact JQ_roundP (k3 + 1, mergeV V [q]) ⟨by dsimp only; omega, hmo⟩ (by dsimp only; omega) esubT lessT
  have hVl : V.length ≤ 30 := by omega
  clear h19 hk3 hV
  refine JC_exit (JQ_then_exit (JQ_then_exit (JQ_hit (JQ_then (JC_seq ?_)))))
  refine JC_region ?_
  refine JL_1 rfl (by first | exact op_fieldPtr (k := 2) (Ev.rfl' rfl) rfl rfl rfl rfl | exact op_fieldRefN (k := 2) (Ev.rfl' rfl) rfl rfl rfl rfl nrmT) ?_
  refine JL_1 rfl (by first | exact op_loadRef (Ev.rfl' rfl) rfl rfl rfl | exact op_loadPtr (Ev.rfl' rfl) memT (by rfl) (by rfl) (by rfl)) ?_
  refine JL_1 rfl (by first | exact op_fieldPtr (k := 4) (Ev.rfl' rfl) rfl rfl rfl rfl | exact op_fieldRefN (k := 4) (Ev.rfl' rfl) rfl rfl rfl rfl nrmT) ?_
  refine JL_1 rfl (by first | exact op_loadRef (Ev.rfl' rfl) rfl rfl rfl | exact op_loadPtr (Ev.rfl' rfl) memT (by rfl) (by rfl) (by rfl)) ?_
  refine JL_1 rfl (by first | exact op_fieldPtr (k := 3) (Ev.rfl' rfl) rfl rfl rfl rfl | exact op_fieldRefN (k := 3) (Ev.rfl' rfl) rfl rfl rfl rfl nrmT) ?_
  refine JL_1 rfl (by first | exact op_loadRef (Ev.rfl' rfl) rfl rfl rfl | exact op_loadPtr (Ev.rfl' rfl) memT (by rfl) (by rfl) (by rfl)) ?_
  refine JL_1 rfl (op_buildN (qs := [(0, _), (1, _), (2, _)]) rfl rfl rfl rfl ⟨⟨rfl, _, (Ev.rfl' rfl), cellsT⟩, ⟨⟨rfl, _, (Ev.rfl' rfl), cellsT⟩, ⟨⟨rfl, _, (Ev.rfl' rfl), cellsT⟩, trivial⟩⟩⟩ (by rfl) nrmT) ?_
  (refine JL_n rfl (op_box (Ev.rfl' rfl) cellsT) ?_; intro i121)
  refine JL_1 rfl (op_assign rfl) ?_
  refine JL_nil ?_
  refine JQ_then (JC_seq ?_)
  refine JC_freezeB hX (b := i121) replT ?_
  refine JC_set 12 (IsRef (moC ⟨W, V, C⟩)) rfl (SubL.fact memT) ?_
  refine JC_region ?_
  refine JL_1 rfl (by first | exact op_loadRefsN (n := 5) (Ev.rfl' rfl) rfl rfl rfl (by rfl) nrmT | exact op_loadPtrsN (n := 5) (Ev.rfl' rfl) memT (by rfl) (by rfl) (by rfl) (by rfl) nrmT) ?_
  refine JL_1 rfl (by first | ((refine op_call Try.call45 (Sets_ok ⟨t.cl, t.sq, W, C, V⟩ ?_ ?_) ⟨evS, trivial⟩); all_goals (first | dsimp only; omega))) ?_
  refine JL_1 rfl (op_move rfl) ?_
  refine JL_1 rfl (op_extract (Ev.rfl' rfl) rfl) ?_
  refine JL_1 rfl (op_extract (Ev.rfl' rfl) rfl) ?_
  refine JL_1 rfl (op_extract (Ev.rfl' rfl) rfl) ?_
  refine JL_1 rfl (op_assign rfl) ?_
  refine JL_1 rfl (op_assign rfl) ?_
  refine JL_1 rfl (op_assign rfl) ?_
  refine JL_nil ?_
  refine JQ_then (JC_seq ?_)
  refine JC_region ?_
  refine JL_1 rfl (op_move rfl) ?_
  refine JL_1 rfl (by first | ((refine op_call Try.call46 (setsM_ok ⟨W, V, C⟩ ?_ ?_) ⟨evS, trivial⟩); all_goals (first | dsimp only; omega))) ?_
  refine JL_1 rfl (op_move rfl) ?_
  refine JL_1 rfl (op_extract (Ev.rfl' rfl) rfl) ?_
  refine JL_1 rfl (op_extract (Ev.rfl' rfl) rfl) ?_
  refine JL_1 rfl (op_extract (Ev.rfl' rfl) rfl) ?_
  refine JL_1 rfl (op_assign rfl) ?_
  refine JL_1 rfl (op_assign rfl) ?_
  refine JL_1 rfl (op_assign rfl) ?_
  refine JL_nil ?_
  refine JQ_then (JC_seq ?_)
  rw [sets_same (x := ⟨t.cl, t.sq, W, C, V⟩) (m := ⟨W, V, C⟩) rfl rfl rfl hCa]
  refine JC_region ?_
  refine JL_1 rfl (op_call Try.call47 (awakeT_ok) trivial) ?_
  refine JL_1 rfl (op_move rfl) ?_
  (first | refine JL_i0 rfl rfl rfl (fun hg => (by have hg0 := hg; (try simp at hg); first | exact op_moveE (Ev.sub rfl (SubL.iteT (by first | assumption | (simp; done) | (simp; omega) | (simp_all; done)) SubL.rfl')) | exact op_moveE (Ev.rfl' rfl))) ?_ | refine JL_i rfl rfl rfl (fun hp hg => (by have hpg := Bool.and_eq_true_iff.2 ⟨hp, hg⟩; have hg0 := hg; (try simp at hg); first | exact op_moveE (Ev.sub rfl (SubL.iteT (by first | assumption | (simp; done) | (simp; omega) | (simp_all; done)) SubL.rfl')) | exact op_moveE (Ev.rfl' rfl))) ?_)
  (first | refine JL_i0 rfl rfl rfl (fun hg => (by have hg0 := hg; (try simp at hg); first | exact op_moveE (Ev.sub rfl (SubL.iteT (by first | assumption | (simp; done) | (simp; omega) | (simp_all; done)) SubL.rfl')) | exact op_moveE (Ev.rfl' rfl))) ?_ | refine JL_i rfl rfl rfl (fun hp hg => (by have hpg := Bool.and_eq_true_iff.2 ⟨hp, hg⟩; have hg0 := hg; (try simp at hg); first | exact op_moveE (Ev.sub rfl (SubL.iteT (by first | assumption | (simp; done) | (simp; omega) | (simp_all; done)) SubL.rfl')) | exact op_moveE (Ev.rfl' rfl))) ?_)
  (first | refine JL_i0 rfl rfl rfl (fun hg => (by have hg0 := hg; (try simp at hg); exact op_eql evG evG)) ?_ | refine JL_i rfl rfl rfl (fun hp hg => (by have hpg := Bool.and_eq_true_iff.2 ⟨hp, hg⟩; have hg0 := hg; (try simp at hg); exact op_eql evG evG)) ?_)
  refine JL_1 rfl (op_and (Ev.rfl' rfl) rfl (fun h => by first | exact SubL.rfl' | exact SubL.iteT (by first | (rw [h]; rfl) | (simp_all; done)) SubL.rfl')) ?_
  refine JL_1 rfl (op_move rfl) ?_
  (first | refine JL_i0 rfl rfl rfl (fun hg => (by have hg0 := hg; (try simp at hg); first | exact op_moveE (Ev.sub rfl (SubL.iteT (by first | assumption | (simp; done) | (simp; omega) | (simp_all; done)) SubL.rfl')) | exact op_moveE (Ev.rfl' rfl))) ?_ | refine JL_i rfl rfl rfl (fun hp hg => (by have hpg := Bool.and_eq_true_iff.2 ⟨hp, hg⟩; have hg0 := hg; (try simp at hg); first | exact op_moveE (Ev.sub rfl (SubL.iteT (by first | assumption | (simp; done) | (simp; omega) | (simp_all; done)) SubL.rfl')) | exact op_moveE (Ev.rfl' rfl))) ?_)
  (first | refine JL_i0 rfl rfl rfl (fun hg => (by have hg0 := hg; (try simp at hg); first | exact op_moveE (Ev.sub rfl (SubL.iteT (by first | assumption | (simp; done) | (simp; omega) | (simp_all; done)) SubL.rfl')) | exact op_moveE (Ev.rfl' rfl))) ?_ | refine JL_i rfl rfl rfl (fun hp hg => (by have hpg := Bool.and_eq_true_iff.2 ⟨hp, hg⟩; have hg0 := hg; (try simp at hg); first | exact op_moveE (Ev.sub rfl (SubL.iteT (by first | assumption | (simp; done) | (simp; omega) | (simp_all; done)) SubL.rfl')) | exact op_moveE (Ev.rfl' rfl))) ?_)
  (first | refine JL_i0 rfl rfl rfl (fun hg => (by have hg0 := hg; (try simp at hg); exact op_call Try.call48 (sameSeen_ok _ _) ⟨evS, ⟨evS, trivial⟩⟩)) ?_ | refine JL_i rfl rfl rfl (fun hp hg => (by have hpg := Bool.and_eq_true_iff.2 ⟨hp, hg⟩; have hg0 := hg; (try simp at hg); exact op_call Try.call48 (sameSeen_ok _ _) ⟨evS, ⟨evS, trivial⟩⟩)) ?_)
  refine JL_1 rfl (op_and (Ev.rfl' rfl) rfl (fun h => by first | exact SubL.rfl' | exact SubL.iteT (by first | (rw [h]; rfl) | (simp_all; done)) SubL.rfl')) ?_
  refine JL_1 rfl (op_move rfl) ?_
  (first | refine JL_i0 rfl rfl rfl (fun hg => (by have hg0 := hg; (try simp at hg); first | exact op_moveE (Ev.sub rfl (SubL.iteT (by first | assumption | (simp; done) | (simp; omega) | (simp_all; done)) SubL.rfl')) | exact op_moveE (Ev.rfl' rfl))) ?_ | refine JL_i rfl rfl rfl (fun hp hg => (by have hpg := Bool.and_eq_true_iff.2 ⟨hp, hg⟩; have hg0 := hg; (try simp at hg); first | exact op_moveE (Ev.sub rfl (SubL.iteT (by first | assumption | (simp; done) | (simp; omega) | (simp_all; done)) SubL.rfl')) | exact op_moveE (Ev.rfl' rfl))) ?_)
  (first | refine JL_i0 rfl rfl rfl (fun hg => (by have hg0 := hg; (try simp at hg); first | exact op_moveE (Ev.sub rfl (SubL.iteT (by first | assumption | (simp; done) | (simp; omega) | (simp_all; done)) SubL.rfl')) | exact op_moveE (Ev.rfl' rfl))) ?_ | refine JL_i rfl rfl rfl (fun hp hg => (by have hpg := Bool.and_eq_true_iff.2 ⟨hp, hg⟩; have hg0 := hg; (try simp at hg); first | exact op_moveE (Ev.sub rfl (SubL.iteT (by first | assumption | (simp; done) | (simp; omega) | (simp_all; done)) SubL.rfl')) | exact op_moveE (Ev.rfl' rfl))) ?_)
  (first | refine JL_i0 rfl rfl rfl (fun hg => (by have hg0 := hg; (try simp at hg); exact op_call Try.call33 (SamePages_ok _ _) ⟨evS, ⟨evS, trivial⟩⟩)) ?_ | refine JL_i rfl rfl rfl (fun hp hg => (by have hpg := Bool.and_eq_true_iff.2 ⟨hp, hg⟩; have hg0 := hg; (try simp at hg); exact op_call Try.call33 (SamePages_ok _ _) ⟨evS, ⟨evS, trivial⟩⟩)) ?_)
  refine JL_1 rfl (op_and (Ev.rfl' rfl) rfl (fun h => by first | exact SubL.rfl' | exact SubL.iteT (by first | (rw [h]; rfl) | (simp_all; done)) SubL.rfl')) ?_
  refine JL_1 rfl (op_assign rfl) ?_
  refine JL_nil ?_
  refine JQ_then (JC_ret ?_)
  refine JQ_ret1 Try.results9 rfl () (SubL.eq ?_) (List.nil_sublist _)
  simp
end Go.Proofs.Ytpfojangcgffkaa

/- Readers of arrays. Own work. -/
namespace Go.Proofs.Ytpfojangcgffkaa
open Go.RowKit Go.ChangeShapes Go.WideShapes Go.ChangeAt
set_option linter.unusedVariables false
set_option linter.unusedSimpArgs false
section
variable {H : Type} {enc : TypeId × Value → H} {P : Program} {w : World} {base : Nat} {sp : Nat → Bool} {held : Bool}
theorem flat_len {α : Type} (T : Ty α) (xs : List α) : (xs.flatMap T.cells).length = xs.length * T.size := by
  induction xs with
  | nil => simp
  | cons x xs ih => rw [List.flatMap_cons, List.length_append, ih, T.len, List.length_cons, Nat.add_mul]; omega
def tArr {α : Type} (n : Nat) (T : Ty α) : Ty {xs : List α // xs.length = n} := ⟨n * T.size, fun xs => xs.1.flatMap T.cells, fun xs => by rw [flat_len, xs.2]⟩
theorem alls_pieces {α : Type} {T : Ty α} {φ : Fz} (A : Nat → α) : ∀ (n : Nat) (cs : List Value), cs.length = n * T.size → (∀ i, i < n → Alls φ (T.cells (A i)) ((cs.drop (i * T.size)).take T.size)) → Alls φ (((List.range n).map A).flatMap T.cells) cs
  | 0, cs, hl, _ => by
    have : cs = [] := List.eq_nil_of_length_eq_zero (by omega)
    subst this; trivial
  | n + 1, cs, hl, h => by
    have e2 : (n + 1) * T.size = n * T.size + T.size := by rw [Nat.add_mul, Nat.one_mul]
    rw [e2] at hl
    have h1 := alls_pieces (T := T) A n (cs.take (n * T.size)) (by rw [List.length_take, hl]; omega) fun i hi => by
      have h2 := h i (by omega)
      have e : ((cs.take (n * T.size)).drop (i * T.size)).take T.size = (cs.drop (i * T.size)).take T.size := by
        rw [List.drop_take, List.take_take]
        congr 1
        have : (i + 1) * T.size ≤ n * T.size := Nat.mul_le_mul_right _ hi
        rw [Nat.add_mul] at this
        omega
      rw [e]; exact h2
    have h3 := h n (by omega)
    rw [List.take_of_length_le (by rw [List.length_drop, hl]; omega)] at h3
    rw [List.range_succ, List.map_append, List.flatMap_append]
    have h4 := h1.append h3
    rw [List.take_append_drop] at h4
    simpa using h4
theorem rds_array {α : Type} {T : Ty α} {R : α → Prop} {t e : TypeId} {n : Nat} (ht : P.underlying t = some (.array n e)) (hc : P.cellsOf e = T.size) (hct : P.cellsOf t = n * T.size) (hn : Nat.blt 0 n = true) (he : Rds enc P w base sp held e T R) :
    Rds enc P w base sp held t (tArr n T) (fun xs => ∀ a ∈ xs.1, R a) := by
  intro fuel cs x h
  obtain ⟨xs, m, _, _, hlen, hxs, hf⟩ := DataW.trod_array ht h
  rw [hct] at hlen
  rw [hc] at hf
  have key : ∀ i, i < n → ∃ y : α, Alls (phi w) (T.cells y) ((cs.drop (i * T.size)).take T.size) ∧ ones ((cs.drop (i * T.size)).take T.size) ∧ R y := fun i hi => by
    have h1 := hf i hi
    rw [List.getElem?_eq_getElem (by omega)] at h1
    exact he _ _ _ h1
  have hn' : 0 < n := Nat.le_of_ble_eq_true hn
  obtain ⟨y0, _, _⟩ := key 0 hn'
  have : Inhabited α := ⟨y0⟩
  obtain ⟨A, hA⟩ := Go.Deep.choose_lt key
  refine ⟨⟨(List.range n).map A, by simp⟩, alls_pieces A n cs hlen fun i hi => (hA i hi).1, ?_, fun a ha => ?_⟩
  · have hone : ∀ k, k ≤ n → ones (cs.take (k * T.size)) := fun k => by
      induction k with
      | zero => intro _ u hu; simp at hu
      | succ k ih =>
        intro hk u hu
        rw [Nat.add_mul, Nat.one_mul, List.take_add] at hu
        rcases List.mem_append.1 hu with hu | hu
        · exact ih (by omega) u hu
        · exact (hA k (by omega)).2.1 u hu
    have := hone n (Nat.le_refl _)
    rwa [List.take_of_length_le (by omega)] at this
  · obtain ⟨i, hi, rfl⟩ := List.mem_map.1 ha
    exact (hA i (List.mem_range.1 hi)).2.2
end
end Go.Proofs.Ytpfojangcgffkaa

/- The reader of pages. Own work. -/
namespace Go.Proofs.Ytpfojangcgffkaa
open Go.RowKit Go.ChangeShapes Go.WideShapes Go.ChangeAt
set_option linter.unusedVariables false
set_option linter.unusedSimpArgs false
set_option maxRecDepth 100000
section
variable {H : Type} {enc : TypeId × Value → H} {w : World} {base : Nat} {sp : Nat → Bool} {held : Bool}
def Pg.wf (p : Pg) : Prop := I64ok p.l
theorem c9_Pg : Try.prog.cellsOf 25 = 9 := by kernel_rfl
theorem c9_A7 : Try.prog.cellsOf 23 = 7 := by kernel_rfl
theorem c9_u64 : Try.prog.cellsOf 22 = 1 := by kernel_rfl
theorem c9_int : Try.prog.cellsOf 3 = 1 := by kernel_rfl
theorem rds_Pg : Rds enc Try.prog w base sp held 25 tPg Pg.wf := by
  intro fuel cs x h
  obtain ⟨xs, n, _, _, hlen, hxs, hf⟩ := DataW.trod_struct Try.underlying25 h
  rw [c9_Pg] at hlen
  match cs, hlen with
  | [c0, c1, c2, c3, c4, c5, c6, c7, c8], _ =>
    match xs, hxs with
    | [x0, x1, x2], _ =>
      have f0 : DataW.trod enc Try.prog w base sp held n 3 (([c0, c1, c2, c3, c4, c5, c6, c7, c8].drop 0).take (Try.prog.cellsOf 3)) = some x0 := hf 0 _ rfl
      have f1 : DataW.trod enc Try.prog w base sp held n 22 (([c0, c1, c2, c3, c4, c5, c6, c7, c8].drop 1).take (Try.prog.cellsOf 22)) = some x1 := hf 1 _ rfl
      have f2 : DataW.trod enc Try.prog w base sp held n 23 (([c0, c1, c2, c3, c4, c5, c6, c7, c8].drop 2).take (Try.prog.cellsOf 23)) = some x2 := hf 2 _ rfl
      rw [c9_int] at f0
      rw [c9_u64] at f1
      rw [c9_A7] at f2
      obtain ⟨l, g0, o0, w0⟩ := (rds_i64 Try.underlying3) _ _ _ f0
      obtain ⟨hd, g1, o1, _⟩ := (rds_u64 Try.underlying22) _ _ _ f1
      obtain ⟨⟨ds, hl⟩, g2, o2, _⟩ := (rds_array Try.underlying23 (T := tU64) c9_u64 c9_A7 rfl (rds_u64 Try.underlying22)) _ _ _ f2
      match ds, hl with
      | [d0, d1, d2, d3, d4, d5, d6], _ => exact ⟨⟨l, hd, d0, d1, d2, d3, d4, d5, d6⟩, (g0.append g1).append g2, ones_app (ones_app o0 o1) o2, w0⟩
end
end Go.Proofs.Ytpfojangcgffkaa

/- The reader of transactions. Own work. -/
namespace Go.Proofs.Ytpfojangcgffkaa
open Go.RowKit Go.ChangeShapes Go.WideShapes Go.ChangeAt
set_option linter.unusedVariables false
set_option linter.unusedSimpArgs false
set_option maxRecDepth 100000
section
variable {H : Type} {enc : TypeId × Value → H} {w : World} {base : Nat} {sp : Nat → Bool} {held : Bool}
@[reducible] def tTx : Ty Tx := ⟨5, txC, fun _ => rfl⟩
def Tx.wf (t : Tx) : Prop := I64ok t.cl ∧ I64ok t.sq ∧ (∀ p ∈ t.base, Pg.wf p) ∧ (∀ n ∈ t.chk, I64ok n) ∧ ∀ p ∈ t.wr, Pg.wf p
theorem c5_Tx : Try.prog.cellsOf 105 = 5 := by kernel_rfl
theorem c1_SPg : Try.prog.cellsOf 69 = 1 := by kernel_rfl
theorem c1_SI : Try.prog.cellsOf 81 = 1 := by kernel_rfl
theorem rds_Tx : Rds enc Try.prog w base sp held 105 tTx Tx.wf := by
  intro fuel cs x h
  obtain ⟨xs, n, _, _, hlen, hxs, hf⟩ := DataW.trod_struct Try.underlying105 h
  rw [c5_Tx] at hlen
  match cs, hlen with
  | [c0, c1, c2, c3, c4], _ =>
    match xs, hxs with
    | [x0, x1, x2, x3, x4], _ =>
      have f0 : DataW.trod enc Try.prog w base sp held n 3 (([c0, c1, c2, c3, c4].drop 0).take (Try.prog.cellsOf 3)) = some x0 := hf 0 _ rfl
      have f1 : DataW.trod enc Try.prog w base sp held n 3 (([c0, c1, c2, c3, c4].drop 1).take (Try.prog.cellsOf 3)) = some x1 := hf 1 _ rfl
      have f2 : DataW.trod enc Try.prog w base sp held n 69 (([c0, c1, c2, c3, c4].drop 2).take (Try.prog.cellsOf 69)) = some x2 := hf 2 _ rfl
      have f3 : DataW.trod enc Try.prog w base sp held n 81 (([c0, c1, c2, c3, c4].drop 3).take (Try.prog.cellsOf 81)) = some x3 := hf 3 _ rfl
      have f4 : DataW.trod enc Try.prog w base sp held n 69 (([c0, c1, c2, c3, c4].drop 4).take (Try.prog.cellsOf 69)) = some x4 := hf 4 _ rfl
      rw [c9_int] at f0 f1
      rw [c1_SPg] at f2 f4
      rw [c1_SI] at f3
      obtain ⟨a, g0, o0, w0⟩ := (rds_i64 Try.underlying3) _ _ _ f0
      obtain ⟨b, g1, o1, w1⟩ := (rds_i64 Try.underlying3) _ _ _ f1
      obtain ⟨d, g2, o2, w2⟩ := (rds_slice Try.underlying69 c9_Pg rfl rds_Pg) _ _ _ f2
      obtain ⟨e, g3, o3, w3⟩ := (rds_slice Try.underlying81 c9_int rfl (rds_i64 Try.underlying3)) _ _ _ f3
      obtain ⟨f, g4, o4, w4⟩ := (rds_slice Try.underlying69 c9_Pg rfl rds_Pg) _ _ _ f4
      exact ⟨⟨a, b, d, e, f⟩, (((g0.append g1).append g2).append g3).append g4, ones_app (ones_app (ones_app (ones_app o0 o1) o2) o3) o4, w0, w1, w2, w3, w4⟩
end
end Go.Proofs.Ytpfojangcgffkaa
