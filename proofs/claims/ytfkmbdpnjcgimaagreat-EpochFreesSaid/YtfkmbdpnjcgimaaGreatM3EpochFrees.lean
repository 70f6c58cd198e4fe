/- Texts of this claim, laid together (part 3): walks of functions, what they compute, and plain laws of it. Own work. -/
import Derived.Maps.RangeRun
import Derived.Maps.Keyed
import Derived.Test.YtfkmbdpnjcgimaaGreatM2EpochFrees
/- Contracts: pages sorted in place: two ascending runs merged; all of a row sorted. Own work. -/
namespace Go.Proofs.YtfkmbdpnjcgimaaGreat
open Go.RowKit
set_option linter.unusedVariables false
set_option linter.unusedSimpArgs false
set_option maxRecDepth 100000
theorem op_half {P : Program} {c : Ctx} {A : Nat → Option VP} {L : List Item} {d : Option Tmp} {ty : TypeId} {pos : String} {af : Array Edge} {g : Option (Nat × Bool)} {x y : Operand} {t u : TypeId} {n : Int} {m : Nat}
    (hx : Ev A L x (Is (.int .u64 n))) (hy : Ev A L y (Is (.int .u64 1))) (hn : n = (m : Int)) : OpP P c ⟨d, .binOp .shr t x y u, ty, pos, af, g⟩ A L (Is (.int .u64 ((m / 2 : Nat) : Int))) :=
  op_shr hx hy (by omega) (by
    subst hn
    have : (2 : Int) ^ (min (1 : Int).toNat IntKind.u64.bits) = 2 := rfl
    rw [this, Int.fdiv_eq_ediv_of_nonneg _ (by omega)]
    omega)
/-- Where x belongs among what ascends from m to b: before p all is less, from q on none. -/
structure LoB (a b p q : Nat) (x : Pg) (xs : List Pg) : Prop where
  lt : ∀ r u, a ≤ r → r < p → xs[r]? = some u → u.l < x.l
  ge : ∀ r u, q ≤ r → r < b → xs[r]? = some u → x.l ≤ u.l
structure UpB (a b p q : Nat) (x : Pg) (xs : List Pg) : Prop where
  le : ∀ r u, a ≤ r → r < p → xs[r]? = some u → u.l ≤ x.l
  gt : ∀ r u, q ≤ r → r < b → xs[r]? = some u → x.l < u.l
theorem lob_rgt {a b p : Nat} {x : Pg} {xs : List Pg} (h : LoB (a + 1) b p p x xs) (hs : Srt Pg.l (a + 1) b xs) (hx : xs[a]? = some x) (hp : a + 1 ≤ p) : Rgt Pg.l a b p a x xs :=
  ⟨hx, fun i j u v h1 h2 h3 h4 h5 hu hv => hs i j u v (by omega) h2 h3 hu hv, fun i u h1 h2 h3 hu => Int.le_of_lt (h.lt i u (by omega) h2 hu), fun i u h1 h2 hu => h.ge i u h1 h2 hu⟩
theorem upb_lft {a m p : Nat} {x : Pg} {xs : List Pg} (h : UpB a m p p x xs) (hs : Srt Pg.l a m xs) (hx : xs[m]? = some x) (hp : p ≤ m) : Lft Pg.l a (m + 1) p m x xs :=
  ⟨hx, fun i j u v h1 h2 h3 h4 h5 hu hv => hs i j u v h1 h2 (by omega) hu hv, fun i u h1 h2 hu => h.le i u h1 h2 hu, fun i u h1 h2 h3 hu => Int.le_of_lt (h.gt i u h1 (by omega) hu)⟩
/-- How far the merge's search has come. -/
structure Sea (s0 r0 p : Nat) (st r : Nat) (xs : List Pg) : Prop where
  lo : s0 ≤ st
  hi : st ≤ r
  to : r ≤ r0
  c1 : st = s0 ∨ ∀ u v, xs[st - 1]? = some u → xs[p - (st - 1)]? = some v → u.l ≤ v.l
  c2 : r = r0 ∨ ∀ u v, xs[p - r]? = some u → xs[r]? = some v → u.l ≤ v.l
-- slices.symMergeCmpFunc[bodega/api.Page]: function 95
set_option maxHeartbeats 4000000 in
theorem symMerge_ok : ∀ (fu : Nat) (xs : List Pg) (n : Nat) (i : Option Addr × Nat) (a m b : Nat), b - a ≤ fu → a < m → m < b → b ≤ xs.length → xs.length ≤ 1048576 → Srt Pg.l a m xs → Srt Pg.l m b xs →
    Fn Tryz.prog 95 [Is (slV n i), Is (.int .i64 (a : Int)), Is (.int .i64 (m : Int)), Is (.int .i64 (b : Int)), Is fAsc] [buf (slV n i) 51 tPg xs]
      (fun _ : {ys : List Pg // Srt Pg.l a b ys ∧ PI a b xs ys} => IsTup []) (fun ys => [buf (slV n i) 51 tPg ys.1]) := by
  intro fu
  induction fu with
  | zero => intro xs n i a m b h1 h2 h3; omega
  | succ fu ih =>
    intro xs n i a m b hfu ham hmb hbn hn hs1 hs2
    obtain ⟨xa, hxa⟩ : ∃ x, xs[a]? = some x := ⟨xs[a], List.getElem?_eq_getElem (by omega)⟩
    obtain ⟨xm, hxm⟩ : ∃ x, xs[m]? = some x := ⟨xs[m], List.getElem?_eq_getElem (by omega)⟩
    refine Fn.enterN Tryz.func95 Tryz.ntmps95 rfl rfl ?_
    intro c hX
    refine JC_seq (JC_seq ?_)
    refine JC_region (JL_1 rfl (op_move rfl) (JL_1 rfl (op_move rfl) (JL_1 rfl (op_sub (Ev.rfl' rfl) (Ev.rfl' rfl) wrapT) ?_)))
    refine JL_1 rfl (op_eql (Ev.rfl' rfl) (Ev.rfl' rfl)) (JL_nil (JQ_then ?_))
    refine JC_cond (Ev.rfl' rfl) (fun h0 => ?_) (fun h0 => ?_)
    · have hm1 : m = a + 1 := by have h0' : (m : Int) - a = 1 := (by simpa using h0); omega
      subst hm1
      clear h0
      refine JC_seq (JC_region (JL_1 rfl (op_move rfl) (JL_1 rfl (op_assign rfl) (JL_nil ?_))))
      refine JQ_then (JC_seq ?_)
      refine JC_region (JL_1 rfl (op_move rfl) (JL_1 rfl (op_assign rfl) (JL_nil ?_)))
      refine JQ_then (JC_seq (JC_block ?_))
      refine JC_loopP (fun z : Nat × Nat => a + 1 ≤ z.1 ∧ z.1 ≤ z.2 ∧ z.2 ≤ b ∧ LoB (a + 1) b z.1 z.2 xa xs) (fun z => [(0, Is (slV n i)), (1, Is (.int .i64 (a : Int))), (4, Is fAsc), (10, Is (.int .i64 (z.1 : Nat))), (11, Is (.int .i64 (z.2 : Nat)))]) (fun z => [buf (slV n i) 51 tPg xs]) (fun z => z.2 - z.1) (a + 1, b) ⟨Nat.le_refl _, by dsimp only; omega, Nat.le_refl _, ⟨fun r u h1 h2 => by dsimp only at h2; omega, fun r u h1 h2 => by dsimp only at h1; omega⟩⟩ esubT lessT ?_
      rintro ⟨p, q⟩ ⟨hp0, hpq, hqb, hl⟩
      dsimp only at hp0 hpq hqb hl ⊢
      refine JC_seq (JC_seq ?_)
      refine JC_region (JL_1 rfl (op_move rfl) (JL_1 rfl (op_move rfl) (JL_1 rfl (op_lss (Ev.rfl' rfl) (Ev.rfl' rfl)) (JL_nil (JQ_then ?_)))))
      refine JC_cond (Ev.rfl' rfl) (fun h3 => ?_) (fun h3 => ?_)
      · have hlt : p < q := by have := of_decide_eq_true h3; omega
        clear h3
        obtain ⟨y, hy⟩ : ∃ y, xs[(p + q) / 2]? = some y := ⟨xs[(p + q) / 2], List.getElem?_eq_getElem (by omega)⟩
        refine JC_skip (JQ_then (JC_block (JC_seq ?_)))
        refine JC_region (JL_1 rfl (op_move rfl) (JL_1 rfl (op_move rfl) (JL_1 rfl (op_add (Ev.rfl' rfl) (Ev.rfl' rfl) wrapT) ?_)))
        refine JL_1 rfl (op_conv (Ev.rfl' rfl) rfl rfl convT) ?_
        refine JL_1 rfl (op_half (m := p + q) (Ev.rfl' rfl) (Ev.rfl' rfl) (by omega)) ?_
        refine JL_1 rfl (op_conv (Ev.rfl' rfl) rfl rfl convT) ?_
        refine JL_1 rfl (op_assign rfl) (JL_nil ?_)
        refine JQ_then (JC_seq ?_)
        refine JC_dr rfl (by kernel_rfl) ?_
        refine JD_stretch 11 (by kernel_rfl) ?_
        refine JW_1 (op_move rfl) (JW_1 (op_move rfl) (JW_1 (op_move rfl) (JW_1 (by exact op_indexBuf (k := (p + q) / 2) (Ev.rfl' rfl) memT (Ev.rfl' rfl) rfl rfl idxT lenT) ?_)))
        refine JW_1 (by exact op_loadBufs (Ev.rfl' rfl) memT hy rfl rfl rfl) ?_
        refine JW_1 (op_move rfl) (JW_1 (op_move rfl) (JW_1 (by exact op_indexBuf (k := a) (Ev.rfl' rfl) memT (Ev.rfl' rfl) rfl rfl idxT lenT) ?_))
        refine JW_1 (by exact op_loadBufs (Ev.rfl' rfl) memT hxa rfl rfl rfl) ?_
        refine JW_1 (op_callV0 (Ev.rfl' rfl) Tryz.call52 (asc1_ok _ _) ⟨evS, ⟨evS, trivial⟩⟩) ?_
        refine JW_1 (op_lss (Ev.rfl' rfl) (Ev.rfl' rfl)) ?_
        refine ⟨rfl, ?_⟩
        refine JD_end (JQ_then ?_)
        refine JC_cond (Ev.rfl' rfl) (fun h5 => ?_) (fun h5 => ?_)
        · have hc : y.l < xa.l := by rw [cmpI_neg] at h5; exact of_decide_eq_true h5
          clear h5
          refine JC_region (JL_1 rfl (op_move rfl) (JL_1 rfl (op_add (Ev.rfl' rfl) (Ev.rfl' rfl) wrapT) ?_))
          refine JL_1 rfl (op_assign rfl) (JL_nil (JQ_block ?_))
          exact JQ_roundP ((p + q) / 2 + 1, q) ⟨by dsimp only; omega, by dsimp only; omega, hqb, ⟨fun r u h1 h2 hu => Int.lt_of_le_of_lt (hs2.le (i := r) (j := (p + q) / 2) h1 (by dsimp only at h2; omega) (by omega) hu hy) hc, hl.ge⟩⟩ (by dsimp only; omega) esubT lessT
        have hc : xa.l ≤ y.l := by rw [cmpI_neg] at h5; have := of_decide_eq_false h5; omega
        clear h5
        refine JC_region (JL_1 rfl (op_move rfl) (JL_1 rfl (op_assign rfl) (JL_nil (JQ_block ?_))))
        exact JQ_roundP (p, (p + q) / 2) ⟨hp0, by dsimp only; omega, by dsimp only; omega, ⟨hl.lt, fun r u h1 h2 hu => Int.le_trans hc (hs2.le (i := (p + q) / 2) (j := r) (by omega) h1 h2 hy hu)⟩⟩ (by dsimp only; omega) esubT lessT
      have hpe : p = q := by have := of_decide_eq_false h3; omega
      subst hpe
      clear h3
      refine JC_exit (JQ_then_exit (JQ_then_exit (JQ_hit (JQ_then (JC_seq (JC_seq ?_))))))
      refine JC_region (JL_1 rfl (op_move rfl) (JL_1 rfl (op_assign rfl) (JL_nil ?_)))
      refine JQ_then (JC_block ?_)
      refine JC_loopP (fun z : Nat × List Pg => a ≤ z.1 ∧ z.1 + 1 ≤ p ∧ Rgt Pg.l a b p z.1 xa z.2 ∧ PI a b xs z.2) (fun z => [(0, Is (slV n i)), (10, Is (.int .i64 (p : Nat))), (13, Is (.int .i64 (z.1 : Nat)))]) (fun z => [buf (slV n i) 51 tPg z.2]) (fun z => p - z.1) (a, xs) ⟨Nat.le_refl _, hp0, lob_rgt hl hs2 hxa hp0, PI.rfl'⟩ esubT lessT ?_
      rintro ⟨k, zs⟩ ⟨hk0, hkp, hr, hpi⟩
      dsimp only at hk0 hkp hr hpi ⊢
      have hzl := hpi.len
      refine JC_seq (JC_seq ?_)
      refine JC_region (JL_1 rfl (op_move rfl) (JL_1 rfl (op_move rfl) (JL_1 rfl (op_sub (Ev.rfl' rfl) (Ev.rfl' rfl) wrapT) ?_)))
      refine JL_1 rfl (op_lss (Ev.rfl' rfl) (Ev.rfl' rfl)) (JL_nil (JQ_then ?_))
      refine JC_cond (Ev.rfl' rfl) (fun h9 => ?_) (fun h9 => ?_)
      · have hlt : k + 1 < p := by have := of_decide_eq_true h9; omega
        clear h9
        have hx := hr.at_
        obtain ⟨y, hy⟩ : ∃ y, zs[k + 1]? = some y := ⟨zs[k + 1], List.getElem?_eq_getElem (by omega)⟩
        have hy2 : (zs.set k y)[k + 1]? = some y := by rw [List.getElem?_set_ne (by omega)]; exact hy
        refine JC_skip (JQ_then (JC_seq (JC_block ?_)))
        refine JC_dr rfl (by kernel_rfl) ?_
        refine JD_phase [0, 0, 0, 0, 0, 0, 0, 0, 1, 1, 0, 0, 1, 1, 1, 2, 1, 2] (by kernel_rfl) (by kernel_rfl) ?_
        refine PW_0 (op_move rfl) (PW_0 (op_move rfl) (PW_0 (op_move rfl) (PW_0 (op_move rfl) (PW_0 (op_add (Ev.rfl' rfl) (Ev.rfl' rfl) wrapT) ?_))))
        refine PW_0 (op_move rfl) (PW_0 (op_move rfl) (PW_0 (op_add (Ev.rfl' rfl) (Ev.rfl' rfl) wrapT) ?_))
        refine PW_1 (by exact op_indexBuf (k := k + 1) (Ev.rfl' rfl) memT (Ev.rfl' rfl) rfl rfl idxT lenT) ?_
        refine PW_1 (by exact op_loadBufs (Ev.rfl' rfl) memT hy rfl rfl rfl) ?_
        refine PW_0 (op_move rfl) (PW_0 (op_move rfl) (PW_1 (by exact op_indexBuf (k := k) (Ev.rfl' rfl) memT (Ev.rfl' rfl) rfl rfl idxT lenT) ?_))
        refine PW_1 (by exact op_loadBufs (Ev.rfl' rfl) memT hx rfl rfl rfl) ?_
        refine PW_1 (by exact op_indexBuf (k := k) (Ev.rfl' rfl) memT (Ev.rfl' rfl) rfl rfl idxT lenT) ?_
        refine PW_2 (by exact op_storeBuf0 (z' := y) (Ev.rfl' rfl) (Ev.rfl' rfl) cellsT replT hx rfl (by rfl) (by rfl)) ?_
        refine PW_1 (by exact op_indexBuf (k := k + 1) (Ev.rfl' rfl) memT (Ev.rfl' rfl) rfl rfl idxT lenT) ?_
        refine PW_2 (by exact op_storeBuf0 (z' := xa) (Ev.rfl' rfl) (Ev.rfl' rfl) cellsT replT hy2 rfl (by rfl) (by rfl)) ?_
        refine PW_end (JD_end ?_)
        refine JQ_block (JQ_then ?_)
        refine JC_region (JL_1 rfl (op_move rfl) (JL_1 rfl (op_add (Ev.rfl' rfl) (Ev.rfl' rfl) wrapT) ?_))
        refine JL_1 rfl (op_assign rfl) (JL_nil ?_)
        exact JQ_roundP (k + 1, (zs.set k y).set (k + 1) xa) ⟨by dsimp only; omega, by dsimp only; omega, hr.step hk0 hlt hqb hy, hpi.tr (sw_PI hx hy (by omega) (by omega))⟩ (by dsimp only; omega) esubT lessT
      have hke : k + 1 = p := by have := of_decide_eq_false h9; omega
      refine JC_exit (JQ_then_exit (JQ_then_exit (JQ_hit (JQ_then (JC_ret (JQ_then_ret ?_))))))
      exact JQ_retP (Bs := []) Tryz.results95 trivial ⟨zs, hr.done hke, hpi⟩ SubL.rfl' lessT
    have hm1 : ¬ m = a + 1 := fun e => by subst e; simp at h0; omega
    clear h0
    refine JC_skip (JQ_then (JC_seq (JC_seq ?_)))
    refine JC_region (JL_1 rfl (op_move rfl) (JL_1 rfl (op_move rfl) (JL_1 rfl (op_sub (Ev.rfl' rfl) (Ev.rfl' rfl) wrapT) ?_)))
    refine JL_1 rfl (op_eql (Ev.rfl' rfl) (Ev.rfl' rfl)) (JL_nil (JQ_then ?_))
    refine JC_cond (Ev.rfl' rfl) (fun h12 => ?_) (fun h12 => ?_)
    · have hb1 : b = m + 1 := by have h0' : (b : Int) - m = 1 := (by simpa using h12); omega
      subst hb1
      clear h12
      refine JC_seq (JC_region (JL_1 rfl (op_move rfl) (JL_1 rfl (op_assign rfl) (JL_nil ?_))))
      refine JQ_then (JC_seq ?_)
      refine JC_region (JL_1 rfl (op_move rfl) (JL_1 rfl (op_assign rfl) (JL_nil ?_)))
      refine JQ_then (JC_seq (JC_block ?_))
      refine JC_loopP (fun z : Nat × Nat => a ≤ z.1 ∧ z.1 ≤ z.2 ∧ z.2 ≤ m ∧ UpB a m z.1 z.2 xm xs) (fun z => [(0, Is (slV n i)), (2, Is (.int .i64 (m : Int))), (4, Is fAsc), (14, Is (.int .i64 (z.1 : Nat))), (15, Is (.int .i64 (z.2 : Nat)))]) (fun z => [buf (slV n i) 51 tPg xs]) (fun z => z.2 - z.1) (a, m) ⟨Nat.le_refl _, by dsimp only; omega, Nat.le_refl _, ⟨fun r u h1 h2 => by dsimp only at h2; omega, fun r u h1 h2 => by dsimp only at h1; omega⟩⟩ esubT lessT ?_
      rintro ⟨p, q⟩ ⟨hp0, hpq, hqb, hl⟩
      dsimp only at hp0 hpq hqb hl ⊢
      refine JC_seq (JC_seq ?_)
      refine JC_region (JL_1 rfl (op_move rfl) (JL_1 rfl (op_move rfl) (JL_1 rfl (op_lss (Ev.rfl' rfl) (Ev.rfl' rfl)) (JL_nil (JQ_then ?_)))))
      refine JC_cond (Ev.rfl' rfl) (fun h15 => ?_) (fun h15 => ?_)
      · have hlt : p < q := by have := of_decide_eq_true h15; omega
        clear h15
        obtain ⟨y, hy⟩ : ∃ y, xs[(p + q) / 2]? = some y := ⟨xs[(p + q) / 2], List.getElem?_eq_getElem (by omega)⟩
        refine JC_skip (JQ_then (JC_block (JC_seq ?_)))
        refine JC_region (JL_1 rfl (op_move rfl) (JL_1 rfl (op_move rfl) (JL_1 rfl (op_add (Ev.rfl' rfl) (Ev.rfl' rfl) wrapT) ?_)))
        refine JL_1 rfl (op_conv (Ev.rfl' rfl) rfl rfl convT) ?_
        refine JL_1 rfl (op_half (m := p + q) (Ev.rfl' rfl) (Ev.rfl' rfl) (by omega)) ?_
        refine JL_1 rfl (op_conv (Ev.rfl' rfl) rfl rfl convT) ?_
        refine JL_1 rfl (op_assign rfl) (JL_nil ?_)
        refine JQ_then (JC_seq ?_)
        refine JC_dr rfl (by kernel_rfl) ?_
        refine JD_stretch 12 (by kernel_rfl) ?_
        refine JW_1 (op_move rfl) (JW_1 (op_move rfl) (JW_1 (op_move rfl) (JW_1 (by exact op_indexBuf (k := m) (Ev.rfl' rfl) memT (Ev.rfl' rfl) rfl rfl idxT lenT) ?_)))
        refine JW_1 (by exact op_loadBufs (Ev.rfl' rfl) memT hxm rfl rfl rfl) ?_
        refine JW_1 (op_move rfl) (JW_1 (op_move rfl) (JW_1 (by exact op_indexBuf (k := (p + q) / 2) (Ev.rfl' rfl) memT (Ev.rfl' rfl) rfl rfl idxT lenT) ?_))
        refine JW_1 (by exact op_loadBufs (Ev.rfl' rfl) memT hy rfl rfl rfl) ?_
        refine JW_1 (op_callV0 (Ev.rfl' rfl) Tryz.call52 (asc1_ok _ _) ⟨evS, ⟨evS, trivial⟩⟩) ?_
        refine JW_1 (op_lss (Ev.rfl' rfl) (Ev.rfl' rfl)) (JW_1 (op_not (Ev.rfl' rfl)) ?_)
        refine ⟨rfl, ?_⟩
        refine JD_end (JQ_then ?_)
        refine JC_cond (Ev.rfl' rfl) (fun h17 => ?_) (fun h17 => ?_)
        · have hc : y.l ≤ xm.l := by rw [cmpI_neg] at h17; simp at h17; omega
          clear h17
          refine JC_region (JL_1 rfl (op_move rfl) (JL_1 rfl (op_add (Ev.rfl' rfl) (Ev.rfl' rfl) wrapT) ?_))
          refine JL_1 rfl (op_assign rfl) (JL_nil (JQ_block ?_))
          exact JQ_roundP ((p + q) / 2 + 1, q) ⟨by dsimp only; omega, by dsimp only; omega, hqb, ⟨fun r u h1 h2 hu => Int.le_trans (hs1.le (i := r) (j := (p + q) / 2) h1 (by dsimp only at h2; omega) (by omega) hu hy) hc, hl.gt⟩⟩ (by dsimp only; omega) esubT lessT
        have hc : xm.l < y.l := by rw [cmpI_neg] at h17; simp at h17; omega
        clear h17
        refine JC_region (JL_1 rfl (op_move rfl) (JL_1 rfl (op_assign rfl) (JL_nil (JQ_block ?_))))
        exact JQ_roundP (p, (p + q) / 2) ⟨hp0, by dsimp only; omega, by dsimp only; omega, ⟨hl.le, fun r u h1 h2 hu => Int.lt_of_lt_of_le hc (hs1.le (i := (p + q) / 2) (j := r) (by omega) h1 h2 hy hu)⟩⟩ (by dsimp only; omega) esubT lessT
      have hpe : p = q := by have := of_decide_eq_false h15; omega
      subst hpe
      clear h15
      refine JC_exit (JQ_then_exit (JQ_then_exit (JQ_hit (JQ_then (JC_seq (JC_seq ?_))))))
      refine JC_region (JL_1 rfl (op_move rfl) (JL_1 rfl (op_assign rfl) (JL_nil ?_)))
      refine JQ_then (JC_block ?_)
      refine JC_loopP (fun z : Nat × List Pg => p ≤ z.1 ∧ z.1 ≤ m ∧ Lft Pg.l a (m + 1) p z.1 xm z.2 ∧ PI a (m + 1) xs z.2) (fun z => [(0, Is (slV n i)), (14, Is (.int .i64 (p : Nat))), (17, Is (.int .i64 (z.1 : Nat)))]) (fun z => [buf (slV n i) 51 tPg z.2]) (fun z => z.1) (m, xs) ⟨hqb, Nat.le_refl _, upb_lft hl hs1 hxm hqb, PI.rfl'⟩ esubT lessT ?_
      rintro ⟨k, zs⟩ ⟨hk0, hkp, hr, hpi⟩
      dsimp only at hk0 hkp hr hpi ⊢
      have hzl := hpi.len
      refine JC_seq (JC_seq ?_)
      refine JC_region (JL_1 rfl (op_move rfl) (JL_1 rfl (op_move rfl) (JL_1 rfl (op_gtr (Ev.rfl' rfl) (Ev.rfl' rfl)) (JL_nil (JQ_then ?_)))))
      refine JC_cond (Ev.rfl' rfl) (fun h21 => ?_) (fun h21 => ?_)
      · have hlt : p < k := by have := of_decide_eq_true h21; omega
        clear h21
        have hx := hr.at_
        obtain ⟨y, hy⟩ : ∃ y, zs[k - 1]? = some y := ⟨zs[k - 1], List.getElem?_eq_getElem (by omega)⟩
        have hy2 : (zs.set k y)[k - 1]? = some y := by rw [List.getElem?_set_ne (by omega)]; exact hy
        refine JC_skip (JQ_then (JC_seq (JC_block ?_)))
        refine JC_dr rfl (by kernel_rfl) ?_
        refine JD_phase [0, 0, 0, 0, 0, 0, 0, 0, 1, 1, 0, 0, 1, 1, 1, 2, 1, 2] (by kernel_rfl) (by kernel_rfl) ?_
        refine PW_0 (op_move rfl) (PW_0 (op_move rfl) (PW_0 (op_move rfl) (PW_0 (op_move rfl) (PW_0 (op_sub (Ev.rfl' rfl) (Ev.rfl' rfl) wrapT) ?_))))
        refine PW_0 (op_move rfl) (PW_0 (op_move rfl) (PW_0 (op_sub (Ev.rfl' rfl) (Ev.rfl' rfl) wrapT) ?_))
        refine PW_1 (by exact op_indexBuf (k := k - 1) (Ev.rfl' rfl) memT (Ev.rfl' rfl) rfl rfl idxT lenT) ?_
        refine PW_1 (by exact op_loadBufs (Ev.rfl' rfl) memT hy rfl rfl rfl) ?_
        refine PW_0 (op_move rfl) (PW_0 (op_move rfl) (PW_1 (by exact op_indexBuf (k := k) (Ev.rfl' rfl) memT (Ev.rfl' rfl) rfl rfl idxT lenT) ?_))
        refine PW_1 (by exact op_loadBufs (Ev.rfl' rfl) memT hx rfl rfl rfl) ?_
        refine PW_1 (by exact op_indexBuf (k := k) (Ev.rfl' rfl) memT (Ev.rfl' rfl) rfl rfl idxT lenT) ?_
        refine PW_2 (by exact op_storeBuf0 (z' := y) (Ev.rfl' rfl) (Ev.rfl' rfl) cellsT replT hx rfl (by rfl) (by rfl)) ?_
        refine PW_1 (by exact op_indexBuf (k := k - 1) (Ev.rfl' rfl) memT (Ev.rfl' rfl) rfl rfl idxT lenT) ?_
        refine PW_2 (by exact op_storeBuf0 (z' := xm) (Ev.rfl' rfl) (Ev.rfl' rfl) cellsT replT hy2 rfl (by rfl) (by rfl)) ?_
        refine PW_end (JD_end ?_)
        refine JQ_block (JQ_then ?_)
        refine JC_region (JL_1 rfl (op_move rfl) (JL_1 rfl (op_sub (Ev.rfl' rfl) (Ev.rfl' rfl) wrapT) ?_))
        refine JL_1 rfl (op_assign rfl) (JL_nil ?_)
        exact JQ_roundP (k - 1, (zs.set k y).set (k - 1) xm) ⟨by dsimp only; omega, by dsimp only; omega, hr.step hp0 hlt (by omega) hy, hpi.tr (sw_PI hx hy (by omega) (by omega))⟩ (by dsimp only; omega) ⟨⟨_, rfl, SubL.rfl'⟩, ⟨_, rfl, SubL.rfl'⟩, ⟨_, rfl, SubL.eq (ieq (by dsimp only; omega))⟩, trivial⟩ lessT
      have hke : k = p := by have := of_decide_eq_false h21; omega
      subst hke
      refine JC_exit (JQ_then_exit (JQ_then_exit (JQ_hit (JQ_then (JC_ret (JQ_then_ret ?_))))))
      exact JQ_retP (Bs := []) Tryz.results95 trivial ⟨zs, hr.done, hpi⟩ SubL.rfl' lessT
    have hb1 : ¬ b = m + 1 := fun e => by subst e; simp at h12; omega
    clear h12
    obtain ⟨mid, hmid⟩ : ∃ mid, (a + b) / 2 = mid := ⟨_, rfl⟩
    refine JC_skip (JQ_then (JC_seq ?_))
    refine JC_region (JL_1 rfl (op_move rfl) (JL_1 rfl (op_move rfl) (JL_1 rfl (op_add (Ev.rfl' rfl) (Ev.rfl' rfl) wrapT) ?_)))
    refine JL_1 rfl (op_conv (Ev.rfl' rfl) rfl rfl convT) ?_
    refine JL_1 rfl (op_half (m := a + b) (Ev.rfl' rfl) (Ev.rfl' rfl) (by omega)) ?_
    refine JL_1 rfl (op_conv (Ev.rfl' rfl) rfl rfl convT) ?_
    refine JL_1 rfl (op_assign rfl) (JL_nil ?_)
    refine JQ_then (JC_seq ?_)
    rw [hmid]
    refine JC_region (JL_1 rfl (op_move rfl) (JL_1 rfl (op_move rfl) (JL_1 rfl (op_add (Ev.rfl' rfl) (Ev.rfl' rfl) wrapT) ?_)))
    refine JL_1 rfl (op_assign rfl) (JL_nil ?_)
    refine JQ_then (JC_seq ?_)
    refine JC_region (JL_1 rfl (op_assign rfl) (JL_1 rfl (op_assign rfl) (JL_nil ?_)))
    refine JQ_then (JC_seq (JC_seq ?_))
    refine JC_region (JL_1 rfl (op_move rfl) (JL_1 rfl (op_move rfl) (JL_1 rfl (op_gtr (Ev.rfl' rfl) (Ev.rfl' rfl)) (JL_nil (JQ_then (JC_cutT (fun z : Nat × Nat => (mid < m ∧ z.1 = mid + m - b ∧ z.2 = mid) ∨ (m ≤ mid ∧ z.1 = a ∧ z.2 = m)) (fun z => [(0, Is (slV n i)), (1, Is (.int .i64 (a : Int))), (2, Is (.int .i64 (m : Int))), (3, Is (.int .i64 (b : Int))), (4, Is fAsc), (18, Is (.int .i64 (mid : Nat))), (19, Is (.int .i64 ((mid : Int) + (m : Int)))), (20, Is (.int .i64 (z.1 : Nat))), (21, Is (.int .i64 (z.2 : Nat)))]) (fun _ => [buf (slV n i) 51 tPg xs]) ?_ ?_))))))
    rotate_left
    focus
      refine JC_cond (Ev.rfl' rfl) (fun h27 => ?_) (fun h27 => ?_)
      · have hlt : mid < m := by have := of_decide_eq_true h27; omega
        refine JC_seq (JC_region (JL_1 rfl (op_move rfl) (JL_1 rfl (op_move rfl) (JL_1 rfl (op_sub (Ev.rfl' rfl) (Ev.rfl' rfl) wrapT) ?_))))
        refine JL_1 rfl (op_assign rfl) (JL_nil (JQ_then (JC_region (JL_1 rfl (op_move rfl) (JL_1 rfl (op_assign rfl) (JL_nil ?_))))))
        exact JQ_meetP (mid + m - b, mid) (.inl ⟨hlt, rfl, rfl⟩) ⟨⟨_, rfl, SubL.rfl'⟩, ⟨_, rfl, SubL.rfl'⟩, ⟨_, rfl, SubL.rfl'⟩, ⟨_, rfl, SubL.rfl'⟩, ⟨_, rfl, SubL.rfl'⟩, ⟨_, rfl, SubL.rfl'⟩, ⟨_, rfl, SubL.rfl'⟩, ⟨_, rfl, SubL.eq (ieq (by dsimp only; omega))⟩, ⟨_, rfl, SubL.rfl'⟩, trivial⟩ lessT
      have hlt : m ≤ mid := by have := of_decide_eq_false h27; omega
      refine JC_seq (JC_region (JL_1 rfl (op_move rfl) (JL_1 rfl (op_assign rfl) (JL_nil (JQ_then (JC_region (JL_1 rfl (op_move rfl) (JL_1 rfl (op_assign rfl) (JL_nil ?_)))))))))
      exact JQ_meetP (a, m) (.inr ⟨hlt, rfl, rfl⟩) esubT lessT
    rintro ⟨s0, r0⟩ hsr
    dsimp only at hsr ⊢
    refine JC_seq (JC_region (JL_1 rfl (op_move rfl) (JL_1 rfl (op_sub (Ev.rfl' rfl) (Ev.rfl' rfl) wrapT) ?_)))
    refine JL_1 rfl (op_assign rfl) (JL_nil ?_)
    refine JQ_then (JC_seq (JC_block ?_))
    refine JC_loopP (fun z : Nat × Nat => Sea s0 r0 (mid + m - 1) z.1 z.2 xs) (fun z => [(0, Is (slV n i)), (1, Is (.int .i64 (a : Int))), (2, Is (.int .i64 (m : Int))), (3, Is (.int .i64 (b : Int))), (4, Is fAsc), (18, Is (.int .i64 (mid : Nat))), (19, Is (.int .i64 ((mid : Int) + (m : Int)))), (20, Is (.int .i64 (z.1 : Nat))), (21, Is (.int .i64 (z.2 : Nat))), (22, Is (.int .i64 ((mid : Int) + (m : Int) - 1)))]) (fun _ => [buf (slV n i) 51 tPg xs]) (fun z => z.2 - z.1) (s0, r0) ⟨Nat.le_refl _, by dsimp only; omega, Nat.le_refl _, .inl rfl, .inl rfl⟩ esubT lessT ?_
    rintro ⟨st, r⟩ hse
    dsimp only at hse ⊢
    have q1 := hse.lo
    have q2 := hse.hi
    have q3 := hse.to
    refine JC_seq (JC_seq ?_)
    refine JC_region (JL_1 rfl (op_move rfl) (JL_1 rfl (op_move rfl) (JL_1 rfl (op_lss (Ev.rfl' rfl) (Ev.rfl' rfl)) (JL_nil (JQ_then ?_)))))
    refine JC_cond (Ev.rfl' rfl) (fun h33 => ?_) (fun h33 => ?_)
    · have hlt : st < r := by have := of_decide_eq_true h33; omega
      clear h33
      obtain ⟨u, hu⟩ : ∃ u, xs[mid + m - 1 - (st + r) / 2]? = some u := ⟨xs[mid + m - 1 - (st + r) / 2], List.getElem?_eq_getElem (by omega)⟩
      obtain ⟨v, hv⟩ : ∃ v, xs[(st + r) / 2]? = some v := ⟨xs[(st + r) / 2], List.getElem?_eq_getElem (by omega)⟩
      refine JC_skip (JQ_then (JC_block (JC_seq ?_)))
      refine JC_region (JL_1 rfl (op_move rfl) (JL_1 rfl (op_move rfl) (JL_1 rfl (op_add (Ev.rfl' rfl) (Ev.rfl' rfl) wrapT) ?_)))
      refine JL_1 rfl (op_conv (Ev.rfl' rfl) rfl rfl convT) ?_
      refine JL_1 rfl (op_half (m := st + r) (Ev.rfl' rfl) (Ev.rfl' rfl) (by omega)) ?_
      refine JL_1 rfl (op_conv (Ev.rfl' rfl) rfl rfl convT) ?_
      refine JL_1 rfl (op_assign rfl) (JL_nil ?_)
      refine JQ_then (JC_seq ?_)
      refine JC_dr rfl (by kernel_rfl) ?_
      refine JD_stretch 14 (by kernel_rfl) ?_
      refine JW_1 (op_move rfl) (JW_1 (op_move rfl) (JW_1 (op_move rfl) (JW_1 (op_move rfl) (JW_1 (op_sub (Ev.rfl' rfl) (Ev.rfl' rfl) wrapT) ?_))))
      refine JW_1 (by exact op_indexBuf (k := mid + m - 1 - (st + r) / 2) (Ev.rfl' rfl) memT (Ev.rfl' rfl) rfl rfl idxT lenT) ?_
      refine JW_1 (by exact op_loadBufs (Ev.rfl' rfl) memT hu rfl rfl rfl) ?_
      refine JW_1 (op_move rfl) (JW_1 (op_move rfl) (JW_1 (by exact op_indexBuf (k := (st + r) / 2) (Ev.rfl' rfl) memT (Ev.rfl' rfl) rfl rfl idxT lenT) ?_))
      refine JW_1 (by exact op_loadBufs (Ev.rfl' rfl) memT hv rfl rfl rfl) ?_
      refine JW_1 (op_callV0 (Ev.rfl' rfl) Tryz.call52 (asc1_ok _ _) ⟨evS, ⟨evS, trivial⟩⟩) ?_
      refine JW_1 (op_lss (Ev.rfl' rfl) (Ev.rfl' rfl)) (JW_1 (op_not (Ev.rfl' rfl)) ?_)
      refine ⟨rfl, ?_⟩
      refine JD_end (JQ_then ?_)
      refine JC_cond (Ev.rfl' rfl) (fun h35 => ?_) (fun h35 => ?_)
      · have hc : v.l ≤ u.l := by rw [cmpI_neg] at h35; simp at h35; omega
        clear h35
        refine JC_region (JL_1 rfl (op_move rfl) (JL_1 rfl (op_add (Ev.rfl' rfl) (Ev.rfl' rfl) wrapT) ?_))
        refine JL_1 rfl (op_assign rfl) (JL_nil (JQ_block ?_))
        exact JQ_roundP ((st + r) / 2 + 1, r) ⟨by dsimp only; omega, by dsimp only; omega, hse.to, .inr fun u' v' hu' hv' => by
          rw [show (st + r) / 2 + 1 - 1 = (st + r) / 2 by omega] at hu' hv'
          rw [hv] at hu'; cases hu'
          rw [hu] at hv'; cases hv'
          exact hc, hse.c2⟩ (by dsimp only; omega) esubT lessT
      have hc : u.l < v.l := by rw [cmpI_neg] at h35; simp at h35; omega
      clear h35
      refine JC_region (JL_1 rfl (op_move rfl) (JL_1 rfl (op_assign rfl) (JL_nil (JQ_block ?_))))
      exact JQ_roundP (st, (st + r) / 2) ⟨hse.lo, by dsimp only; omega, by dsimp only; omega, hse.c1, .inr fun u' v' hu' hv' => by
        rw [hu] at hu'; cases hu'
        rw [hv] at hv'; cases hv'
        exact Int.le_of_lt hc⟩ (by dsimp only; omega) esubT lessT
    have hre : st = r := by have := of_decide_eq_false h33; omega
    subst hre
    clear h33
    obtain ⟨en, hen⟩ : ∃ en, mid + m - st = en := ⟨_, rfl⟩
    have k1 : a ≤ st := by omega
    have k2 : st ≤ m := by omega
    have k3 : m ≤ en := by omega
    have k4 : en ≤ b := by omega
    have k5 : mid + m = st + en := by omega
    have k6 : st ≤ mid := by omega
    have c1 : st = a ∨ en = b ∨ ∀ x y, xs[st - 1]? = some x → xs[en]? = some y → x.l ≤ y.l := by
      rcases hse.c1 with h | h
      · omega
      · by_cases h0 : st = 0
        · omega
        · refine .inr (.inr fun x y hx hy => h x y hx ?_)
          rw [show mid + m - 1 - (st - 1) = en by omega]; exact hy
    have c2 : st = m ∨ en = m ∨ ∀ x y, xs[en - 1]? = some x → xs[st]? = some y → x.l ≤ y.l := by
      rcases hse.c2 with h | h
      · omega
      · refine .inr (.inr fun x y hx hy => h x y ?_ hy)
        rw [show mid + m - 1 - st = en - 1 by omega]; exact hx
    clear hse
    refine JC_exit (JQ_then_exit (JQ_then_exit (JQ_hit (JQ_then (JC_seq ?_)))))
    refine JC_region (JL_1 rfl (op_move rfl) (JL_1 rfl (op_move rfl) (JL_1 rfl (op_sub (Ev.rfl' rfl) (Ev.rfl' rfl) wrapT) ?_)))
    refine JL_set 177 (Is (.int .i64 (en : Nat))) rfl (SubL.eq (ieq (by omega))) ?_
    refine JL_1 rfl (op_assign rfl) (JL_nil ?_)
    refine JQ_then (JC_seq (JC_seq ?_))
    refine JC_region (JL_1 rfl (op_move rfl) (JL_1 rfl (op_move rfl) (JL_1 rfl (op_lss (Ev.rfl' rfl) (Ev.rfl' rfl)) (JL_1 rfl (op_move rfl) ?_))))
    (refine JL_i0 rfl rfl rfl (fun hg => (by have hg0 := hg; (try simp at hg); exact op_moveE (Ev.rfl' rfl))) ?_)
    (refine JL_i0 rfl rfl rfl (fun hg => (by have hg0 := hg; (try simp at hg); exact op_moveE (Ev.rfl' rfl))) ?_)
    (refine JL_i0 rfl rfl rfl (fun hg => (by have hg0 := hg; (try simp at hg); exact op_lss evG evG)) ?_)
    refine JL_1 rfl (op_and (Ev.rfl' rfl) rfl (fun h => by exact SubL.iteT (by (rw [h]; rfl)) SubL.rfl')) ?_
    refine JL_nil (JQ_then (JC_cutT (fun z : List Pg => (∀ k, z[k]? = rotF (fun k => xs[k]?) st m en k) ∧ PI a b xs z) (fun z => [(0, Is (slV n i)), (1, Is (.int .i64 (a : Int))), (3, Is (.int .i64 (b : Int))), (4, Is fAsc), (18, Is (.int .i64 (mid : Nat))), (20, Is (.int .i64 (st : Nat))), (24, Is (.int .i64 (en : Nat)))]) (fun z => [buf (slV n i) 51 tPg z]) ?_ ?_))
    rotate_left
    focus
      refine JC_cond (Ev.rfl' rfl) (fun h39 => ?_) (fun h39 => ?_)
      · have hlt : st < m ∧ m < en := by simp at h39; omega
        clear h39
        refine JC_region (JL_1 rfl (op_move rfl) (JL_1 rfl (op_move rfl) (JL_1 rfl (op_move rfl) (JL_1 rfl (op_move rfl) (JL_1 rfl (op_move rfl) ?_)))))
        (refine JL_s rfl (by ((refine op_callT drop1T Tryz.call115 (rotate_ok xs n i st m en ?_ ?_ ?_ ?_) ⟨evS, ⟨evS, ⟨evS, ⟨evS, ⟨evS, trivial⟩⟩⟩⟩⟩); all_goals (omega))) ?_; intro i191)
        refine JL_nil ?_
        obtain ⟨ys, hy1, hy2⟩ := i191
        dsimp only
        exact JQ_meetP ys ⟨hy1, hy2.wide (by omega) (by omega)⟩ esubT lessT
      have hor : m = st ∨ m = en := by
        simp at h39
        by_cases h : st < m
        · have := h39 (by omega); omega
        · omega
      clear h39
      refine JC_skip ?_
      exact JQ_meetP xs ⟨fun k => (rotF_none hor k2 k3 k).symm, PI.rfl'⟩ esubT lessT
    rintro ys ⟨hy1, hy2⟩
    obtain ⟨g1, g2, g3, g4, gc⟩ := merge_rot hbn hs1 hs2 k1 k2 k3 k4 k5 k6 c1 c2 hy1
    have hyl := hy2.len
    refine JC_seq (JC_seq ?_)
    refine JC_region (JL_1 rfl (op_move rfl) (JL_1 rfl (op_move rfl) (JL_1 rfl (op_lss (Ev.rfl' rfl) (Ev.rfl' rfl)) (JL_1 rfl (op_move rfl) ?_))))
    (refine JL_i0 rfl rfl rfl (fun hg => (by have hg0 := hg; (try simp at hg); exact op_moveE (Ev.rfl' rfl))) ?_)
    (refine JL_i0 rfl rfl rfl (fun hg => (by have hg0 := hg; (try simp at hg); exact op_moveE (Ev.rfl' rfl))) ?_)
    (refine JL_i0 rfl rfl rfl (fun hg => (by have hg0 := hg; (try simp at hg); exact op_lss evG evG)) ?_)
    refine JL_1 rfl (op_and (Ev.rfl' rfl) rfl (fun h => by exact SubL.iteT (by (rw [h]; rfl)) SubL.rfl')) ?_
    refine JL_nil (JQ_then (JC_cutT (fun z : List Pg => Srt Pg.l a mid z ∧ PI a mid ys z) (fun z => [(0, Is (slV n i)), (3, Is (.int .i64 (b : Int))), (4, Is fAsc), (18, Is (.int .i64 (mid : Nat))), (24, Is (.int .i64 (en : Nat)))]) (fun z => [buf (slV n i) 51 tPg z]) ?_ ?_))
    rotate_left
    focus
      refine JC_cond (Ev.rfl' rfl) (fun h41 => ?_) (fun h41 => ?_)
      · have hlt : a < st ∧ st < mid := by simp at h41; omega
        clear h41
        refine JC_region (JL_1 rfl (op_move rfl) (JL_1 rfl (op_move rfl) (JL_1 rfl (op_move rfl) (JL_1 rfl (op_move rfl) (JL_1 rfl (op_move rfl) ?_)))))
        (refine JL_s rfl (by ((refine op_callT drop1T Tryz.call95 (ih ys n i a st mid ?_ ?_ ?_ ?_ ?_ ?_ ?_) ⟨evS, ⟨evS, ⟨evS, ⟨evS, ⟨evS, trivial⟩⟩⟩⟩⟩); all_goals (omega))) ?_; intro i205)
        refine JL_nil ?_
        obtain ⟨zs, hz1, hz2⟩ := i205
        dsimp only
        exact JQ_meetP zs ⟨hz1, hz2⟩ esubT lessT
      have hor : st = a ∨ st = mid := by
        simp at h41
        by_cases h : a < st
        · have := h41 (by omega); omega
        · omega
      clear h41
      refine JC_skip ?_
      exact JQ_meetP ys ⟨hor.elim (fun h => h ▸ g2) (fun h => h ▸ g1), PI.rfl'⟩ esubT lessT
    rintro zs ⟨hz1, hz2⟩
    have hzl := hz2.len
    have g3' : Srt Pg.l mid en zs := g3.same fun k hk _ => hz2.out k (.inr hk)
    have g4' : Srt Pg.l en b zs := g4.same fun k hk _ => hz2.out k (.inr (by omega))
    have gc' := gc.left hz2
    refine JC_seq (JC_region (JL_1 rfl (op_move rfl) (JL_1 rfl (op_move rfl) (JL_1 rfl (op_lss (Ev.rfl' rfl) (Ev.rfl' rfl)) (JL_1 rfl (op_move rfl) ?_)))))
    (refine JL_i0 rfl rfl rfl (fun hg => (by have hg0 := hg; (try simp at hg); exact op_moveE (Ev.rfl' rfl))) ?_)
    (refine JL_i0 rfl rfl rfl (fun hg => (by have hg0 := hg; (try simp at hg); exact op_moveE (Ev.rfl' rfl))) ?_)
    (refine JL_i0 rfl rfl rfl (fun hg => (by have hg0 := hg; (try simp at hg); exact op_lss evG evG)) ?_)
    refine JL_1 rfl (op_and (Ev.rfl' rfl) rfl (fun h => by exact SubL.iteT (by (rw [h]; rfl)) SubL.rfl')) ?_
    refine JL_nil (JQ_then ?_)
    refine JC_cond (Ev.rfl' rfl) (fun h43 => ?_) (fun h43 => ?_)
    · have hlt : mid < en ∧ en < b := by simp at h43; omega
      clear h43
      refine JC_region (JL_1 rfl (op_move rfl) (JL_1 rfl (op_move rfl) (JL_1 rfl (op_move rfl) (JL_1 rfl (op_move rfl) (JL_1 rfl (op_move rfl) ?_)))))
      (refine JL_s rfl (by ((refine op_callT drop1T Tryz.call95 (ih zs n i mid en b ?_ ?_ ?_ ?_ ?_ ?_ ?_) ⟨evS, ⟨evS, ⟨evS, ⟨evS, ⟨evS, trivial⟩⟩⟩⟩⟩); all_goals (omega))) ?_; intro i219)
      refine JL_nil (JQ_end ?_)
      obtain ⟨us, hu1, hu2⟩ := i219
      dsimp only
      have hfin : Srt Pg.l a b us := Crs.join (hz1.same fun k _ hk => hu2.out k (.inl hk)) hu1 (gc'.right hu2)
      exact JQ_retP (Bs := []) Tryz.results95 trivial ⟨us, hfin, (hy2.tr (hz2.wide (Nat.le_refl _) (by omega))).tr (hu2.wide (by omega) (Nat.le_refl _))⟩ SubL.rfl' lessT
    have hor : en = mid ∨ en = b := by
      simp at h43
      by_cases h : mid < en
      · have := h43 (by omega); omega
      · omega
    clear h43
    have hfin : Srt Pg.l a b zs := Crs.join hz1 (hor.elim (fun h => h ▸ g4') (fun h => h ▸ g3')) gc'
    refine JC_skip (JQ_end ?_)
    exact JQ_retP (Bs := []) Tryz.results95 trivial ⟨zs, hfin, hy2.tr (hz2.wide (Nat.le_refl _) (by omega))⟩ SubL.rfl' lessT
theorem blk_first {k n : Nat} {zs : List Pg} (h : ∀ j, j < k → Srt Pg.l (j * 20) ((j + 1) * 20) zs) (hl : Srt Pg.l (k * 20) n zs) (hn : n < k * 20 + 20) : Blks Pg.l 20 n zs := fun j => by
  rcases Nat.lt_trichotomy j k with h1 | h1 | h1
  · exact (h j h1).sub (Nat.le_refl _) (Nat.min_le_left _ _)
  · subst h1; exact hl.sub (Nat.le_refl _) (Nat.min_le_right _ _)
  · exact Srt.one (by omega)
/-- Two blocks after another: so far merged, from there on not yet. -/
structure Dbl (s n k : Nat) (us : List Pg) : Prop where
  done : ∀ j, j < k → Srt Pg.l (j * (2 * s)) ((j + 1) * (2 * s)) us
  left : ∀ j, 2 * k ≤ j → Srt Pg.l (j * s) (min ((j + 1) * s) n) us
theorem Dbl.start {s n : Nat} {us : List Pg} (h : Blks Pg.l s n us) : Dbl s n 0 us := ⟨fun j hj => by omega, fun j _ => h j⟩
theorem two_mul_s {s k A : Nat} (hA : A = k * (2 * s)) : 2 * k * s = A ∧ (2 * k + 1) * s = A + s ∧ (2 * k + 1 + 1) * s = A + 2 * s ∧ (k + 1) * (2 * s) = A + 2 * s := by
  have h1 : 2 * k * s = A := by rw [hA, Nat.mul_comm 2 k, Nat.mul_assoc]
  refine ⟨h1, by rw [Nat.add_mul, h1, Nat.one_mul], by rw [Nat.add_mul, Nat.add_mul, h1]; omega, by rw [Nat.add_mul, ← hA]; omega⟩
theorem Dbl.runs {s n k A : Nat} {us : List Pg} (h : Dbl s n k us) (hA : A = k * (2 * s)) : Srt Pg.l A (min (A + s) n) us ∧ Srt Pg.l (A + s) (min (A + 2 * s) n) us := by
  obtain ⟨h1, h2, h3, h4⟩ := two_mul_s hA
  have e1 := h.left (2 * k) (Nat.le_refl _)
  have e2 := h.left (2 * k + 1) (by omega)
  rw [h1, h2] at e1
  rw [h2, h3] at e2
  exact ⟨e1, e2⟩
theorem Dbl.step {s n k A : Nat} {us zs : List Pg} (h : Dbl s n k us) (hA : A = k * (2 * s)) (hs : Srt Pg.l A (A + 2 * s) zs) (hp : PI A (A + 2 * s) us zs) : Dbl s n (k + 1) zs := by
  obtain ⟨h1, h2, h3, h4⟩ := two_mul_s hA
  refine ⟨fun j hj => ?_, fun j hj => ?_⟩
  · by_cases hjk : j = k
    · subst hjk; rw [h4, ← hA]; exact hs
    · have hle : (j + 1) * (2 * s) ≤ A := by rw [hA]; exact Nat.mul_le_mul_right _ (by omega)
      exact (h.done j (by omega)).same fun q _ hq => hp.out q (.inl (by omega))
  · have hge : A + 2 * s ≤ j * s := by rw [← h3]; exact Nat.mul_le_mul_right _ (by omega)
    exact (h.left j (by omega)).same fun q hq _ => hp.out q (.inr (by omega))
theorem Dbl.close {s n k A : Nat} {us zs : List Pg} (h : Dbl s n k us) (hA : A = k * (2 * s)) (hn : n < A + 2 * s) (hs : Srt Pg.l A n zs) (hp : PI A n us zs) : Blks Pg.l (2 * s) n zs := fun j => by
  obtain ⟨h1, h2, h3, h4⟩ := two_mul_s hA
  rcases Nat.lt_trichotomy j k with hj | hj | hj
  · have hle : (j + 1) * (2 * s) ≤ A := by rw [hA]; exact Nat.mul_le_mul_right _ (by omega)
    exact ((h.done j hj).sub (Nat.le_refl _) (Nat.min_le_left _ _)).same fun q _ hq => hp.out q (.inl (by omega))
  · subst hj
    rw [← hA]
    exact hs.sub (Nat.le_refl _) (Nat.min_le_right _ _)
  · have hge : (k + 1) * (2 * s) ≤ j * (2 * s) := Nat.mul_le_mul_right _ (by omega)
    exact Srt.one (by omega)
-- slices.stableCmpFunc[bodega/api.Page]: function 68
set_option maxHeartbeats 4000000 in
theorem stable_ok (xs : List Pg) (n : Nat) (i : Option Addr × Nat) (hn0 : n = xs.length) (hn : xs.length ≤ 1048576) :
    Fn Tryz.prog 68 [Is (slV n i), Is (.int .i64 (n : Int)), Is fAsc] [buf (slV n i) 51 tPg xs]
      (fun _ : {ys : List Pg // Srt Pg.l 0 n ys ∧ PI 0 n xs ys} => IsTup []) (fun ys => [buf (slV n i) 51 tPg ys.1]) := by
  refine Fn.enterN Tryz.func68 Tryz.ntmps68 rfl rfl ?_
  intro c hX
  refine JC_seq (JC_region (JL_1 rfl (op_assign rfl) (JL_nil ?_)))
  refine JQ_then (JC_seq ?_)
  refine JC_region (JL_1 rfl (op_move rfl) (JL_1 rfl (op_assign rfl) (JL_1 rfl (op_assign rfl) (JL_nil ?_))))
  refine JQ_then (JC_seq (JC_block ?_))
  refine JC_loopP (fun z : Nat × List Pg => z.1 * 20 ≤ n ∧ (∀ j, j < z.1 → Srt Pg.l (j * 20) ((j + 1) * 20) z.2) ∧ PI 0 n xs z.2) (fun z => [(0, Is (slV n i)), (1, Is (.int .i64 (n : Int))), (2, Is fAsc), (6, Is (.int .i64 20)), (7, Is (.int .i64 ((z.1 * 20 : Nat) : Int))), (8, Is (.int .i64 ((z.1 * 20 + 20 : Nat) : Int)))]) (fun z => [buf (slV n i) 51 tPg z.2]) (fun z => n - z.1 * 20) (0, xs) ⟨by dsimp only; omega, fun j hj => by dsimp only at hj; omega, PI.rfl'⟩ esubT lessT ?_
  rintro ⟨k, zs⟩ ⟨hk, hs, hpi⟩
  dsimp only at hk hs hpi ⊢
  have hzl := hpi.len
  refine JC_seq (JC_seq ?_)
  refine JC_region (JL_1 rfl (op_move rfl) (JL_1 rfl (op_move rfl) (JL_1 rfl (op_leq (Ev.rfl' rfl) (Ev.rfl' rfl)) (JL_nil (JQ_then ?_)))))
  refine JC_cond (Ev.rfl' rfl) (fun h2 => ?_) (fun h2 => ?_)
  · have hlt : k * 20 + 20 ≤ n := by have := of_decide_eq_true h2; omega
    clear h2
    refine JC_skip (JQ_then (JC_block (JC_seq ?_)))
    refine JC_region (JL_1 rfl (op_move rfl) (JL_1 rfl (op_move rfl) (JL_1 rfl (op_move rfl) (JL_1 rfl (op_move rfl) ?_))))
    (refine JL_s rfl (by ((refine op_callT drop1T Tryz.call94 (insertion_ok zs n i (k * 20) (k * 20 + 20) ?_ ?_ ?_) ⟨evS, ⟨evS, ⟨evS, ⟨evS, trivial⟩⟩⟩⟩); all_goals (omega))) ?_; intro i18)
    refine JL_nil ?_
    refine JQ_then (JC_seq ?_)
    obtain ⟨ys, hy1, hy2⟩ := i18
    dsimp only
    refine JC_region (JL_1 rfl (op_move rfl) (JL_1 rfl (op_assign rfl) (JL_nil (JQ_then (JC_region (JL_1 rfl (op_move rfl) (JL_1 rfl (op_move rfl) (JL_1 rfl (op_add (Ev.rfl' rfl) (Ev.rfl' rfl) wrapT) ?_))))))))
    refine JL_1 rfl (op_assign rfl) (JL_nil (JQ_block ?_))
    exact JQ_roundP (k + 1, ys) ⟨by dsimp only; omega, fun j hj => by
      by_cases hjk : j = k
      · subst hjk; exact hy1.sub (Nat.le_refl _) (by omega)
      · exact (hs j (by dsimp only at hj; omega)).same fun q _ hq => hy2.out q (.inl (by dsimp only at hj; omega)), hpi.tr (hy2.wide (by omega) (by omega))⟩ (by dsimp only; omega) ⟨⟨_, rfl, SubL.rfl'⟩, ⟨_, rfl, SubL.rfl'⟩, ⟨_, rfl, SubL.rfl'⟩, ⟨_, rfl, SubL.rfl'⟩, ⟨_, rfl, SubL.eq (ieq (by dsimp only; omega))⟩, ⟨_, rfl, SubL.eq (ieq (by dsimp only; omega))⟩, trivial⟩ lessT
  have hlt : n < k * 20 + 20 := by have := of_decide_eq_false h2; omega
  clear h2
  refine JC_exit (JQ_then_exit (JQ_then_exit (JQ_hit (JQ_then (JC_seq ?_)))))
  refine JC_region (JL_1 rfl (op_move rfl) (JL_1 rfl (op_move rfl) (JL_1 rfl (op_move rfl) (JL_1 rfl (op_move rfl) ?_))))
  (refine JL_s rfl (by ((refine op_callT drop1T Tryz.call94 (insertion_ok zs n i (k * 20) n ?_ ?_ ?_) ⟨evS, ⟨evS, ⟨evS, ⟨evS, trivial⟩⟩⟩⟩); all_goals (omega))) ?_; intro i27)
  refine JL_nil ?_
  refine JQ_then (JC_block ?_)
  obtain ⟨ys, hy1, hy2⟩ := i27
  dsimp only
  have hb0 : Blks Pg.l 20 n ys := blk_first (fun j hj => (hs j hj).same fun q _ hq => hy2.out q (.inl (by omega))) hy1 hlt
  have hpy := hpi.tr (hy2.wide (Nat.zero_le _) (Nat.le_refl _))
  refine JC_loopP (fun z : Nat × List Pg => 0 < z.1 ∧ z.1 ≤ 2097152 ∧ Blks Pg.l z.1 n z.2 ∧ PI 0 n xs z.2) (fun z => [(0, Is (slV n i)), (1, Is (.int .i64 (n : Int))), (2, Is fAsc), (6, Is (.int .i64 (z.1 : Nat)))]) (fun z => [buf (slV n i) 51 tPg z.2]) (fun z => n - z.1) (20, ys) ⟨by dsimp only; omega, by dsimp only; omega, hb0, hpy⟩ esubT lessT ?_
  rintro ⟨s, vs⟩ ⟨hs0, hsb, hbl, hpv⟩
  dsimp only at hs0 hsb hbl hpv ⊢
  refine JC_seq (JC_seq ?_)
  refine JC_region (JL_1 rfl (op_move rfl) (JL_1 rfl (op_move rfl) (JL_1 rfl (op_lss (Ev.rfl' rfl) (Ev.rfl' rfl)) (JL_nil (JQ_then ?_)))))
  refine JC_cond (Ev.rfl' rfl) (fun h7 => ?_) (fun h7 => ?_)
  · have hsn : s < n := by have := of_decide_eq_true h7; omega
    clear h7
    refine JC_skip (JQ_then (JC_block (JC_seq ?_)))
    refine JC_region (JL_1 rfl (op_move rfl) (JL_1 rfl (op_mul (Ev.rfl' rfl) (Ev.rfl' rfl) wrapT) ?_))
    refine JL_1 rfl (op_assign rfl) (JL_1 rfl (op_assign rfl) (JL_nil ?_))
    refine JQ_then (JC_seq (JC_block ?_))
    refine JC_loopP (fun z : Nat × Nat × List Pg => z.2.1 = z.1 * (2 * s) ∧ z.2.1 ≤ n ∧ Dbl s n z.1 z.2.2 ∧ PI 0 n xs z.2.2) (fun z => [(0, Is (slV n i)), (1, Is (.int .i64 (n : Int))), (2, Is fAsc), (6, Is (.int .i64 (s : Nat))), (7, Is (.int .i64 ((z.2.1 : Nat) : Int))), (8, Is (.int .i64 ((z.2.1 + 2 * s : Nat) : Int)))]) (fun z => [buf (slV n i) 51 tPg z.2.2]) (fun z => n - z.2.1) (0, 0, vs) ⟨by simp, Nat.zero_le _, Dbl.start hbl, hpv⟩ ⟨⟨_, rfl, SubL.rfl'⟩, ⟨_, rfl, SubL.rfl'⟩, ⟨_, rfl, SubL.rfl'⟩, ⟨_, rfl, SubL.rfl'⟩, ⟨_, rfl, SubL.rfl'⟩, ⟨_, rfl, SubL.eq (ieq (by dsimp only; omega))⟩, trivial⟩ lessT ?_
    rintro ⟨k2, A, us⟩ ⟨hA, hAn, hd, hpu⟩
    dsimp only at hA hAn hd hpu ⊢
    obtain ⟨r1, r2⟩ := hd.runs hA
    have hul := hpu.len
    refine JC_seq (JC_seq ?_)
    refine JC_region (JL_1 rfl (op_move rfl) (JL_1 rfl (op_move rfl) (JL_1 rfl (op_leq (Ev.rfl' rfl) (Ev.rfl' rfl)) (JL_nil (JQ_then ?_)))))
    refine JC_cond (Ev.rfl' rfl) (fun h9 => ?_) (fun h9 => ?_)
    · have hlt2 : A + 2 * s ≤ n := by have := of_decide_eq_true h9; omega
      clear h9
      rw [Nat.min_eq_left (by omega)] at r1 r2
      refine JC_skip (JQ_then (JC_block (JC_seq ?_)))
      refine JC_region (JL_1 rfl (op_move rfl) (JL_1 rfl (op_move rfl) (JL_1 rfl (op_move rfl) (JL_1 rfl (op_move rfl) (JL_1 rfl (op_add (Ev.rfl' rfl) (Ev.rfl' rfl) wrapT) ?_)))))
      refine JL_set 40 (Is (.int .i64 ((A + s : Nat) : Int))) rfl (SubL.eq (ieq (by omega))) ?_
      refine JL_1 rfl (op_move rfl) (JL_1 rfl (op_move rfl) ?_)
      (refine JL_s rfl (by ((refine op_callT drop1T Tryz.call95 (symMerge_ok (2 * s) us n i A (A + s) (A + 2 * s) ?_ ?_ ?_ ?_ ?_ ?_ ?_) ⟨evS, ⟨evS, ⟨evS, ⟨evS, ⟨evS, trivial⟩⟩⟩⟩⟩); all_goals (omega))) ?_; intro i43)
      refine JL_nil ?_
      refine JQ_then (JC_seq ?_)
      obtain ⟨ws, hw1, hw2⟩ := i43
      dsimp only
      refine JC_region (JL_1 rfl (op_move rfl) (JL_1 rfl (op_assign rfl) (JL_nil (JQ_then (JC_region (JL_1 rfl (op_move rfl) (JL_1 rfl (op_move rfl) (JL_1 rfl (op_mul (Ev.rfl' rfl) (Ev.rfl' rfl) wrapT) ?_))))))))
      refine JL_1 rfl (op_add (Ev.rfl' rfl) (Ev.rfl' rfl) wrapT) ?_
      refine JL_1 rfl (op_assign rfl) (JL_nil (JQ_block ?_))
      exact JQ_roundP (k2 + 1, A + 2 * s, ws) ⟨(two_mul_s hA).2.2.2.symm, hlt2, hd.step hA hw1 hw2, hpu.tr (hw2.wide (Nat.zero_le _) hlt2)⟩ (by dsimp only; omega) ⟨⟨_, rfl, SubL.rfl'⟩, ⟨_, rfl, SubL.rfl'⟩, ⟨_, rfl, SubL.rfl'⟩, ⟨_, rfl, SubL.rfl'⟩, ⟨_, rfl, SubL.rfl'⟩, ⟨_, rfl, SubL.eq (ieq (by dsimp only; omega))⟩, trivial⟩ lessT
    have hlt2 : n < A + 2 * s := by have := of_decide_eq_false h9; omega
    clear h9
    refine JC_exit (JQ_then_exit (JQ_then_exit (JQ_hit (JQ_then (JC_seq (JC_seq ?_))))))
    refine JC_region (JL_1 rfl (op_move rfl) (JL_1 rfl (op_move rfl) (JL_1 rfl (op_add (Ev.rfl' rfl) (Ev.rfl' rfl) wrapT) ?_)))
    refine JL_set 51 (Is (.int .i64 ((A + s : Nat) : Int))) rfl (SubL.eq (ieq (by omega))) ?_
    refine JL_1 rfl (op_assign rfl) (JL_nil ?_)
    refine JQ_then (JC_seq ?_)
    refine JC_region (JL_1 rfl (op_move rfl) (JL_1 rfl (op_move rfl) (JL_1 rfl (op_lss (Ev.rfl' rfl) (Ev.rfl' rfl)) (JL_nil (JQ_then (JC_cutT (fun z : List Pg => Blks Pg.l (2 * s) n z ∧ PI 0 n xs z) (fun z => [(0, Is (slV n i)), (1, Is (.int .i64 (n : Int))), (2, Is fAsc), (6, Is (.int .i64 (s : Nat)))]) (fun z => [buf (slV n i) 51 tPg z]) ?_ ?_))))))
    rotate_left
    focus
      refine JC_cond (Ev.rfl' rfl) (fun h14 => ?_) (fun h14 => ?_)
      · have hlt3 : A + s < n := by have := of_decide_eq_true h14; omega
        clear h14
        rw [Nat.min_eq_left (by omega)] at r1
        rw [Nat.min_eq_right (by omega)] at r2
        refine JC_region (JL_1 rfl (op_move rfl) (JL_1 rfl (op_move rfl) (JL_1 rfl (op_move rfl) (JL_1 rfl (op_move rfl) (JL_1 rfl (op_move rfl) ?_)))))
        (refine JL_s rfl (by ((refine op_callT drop1T Tryz.call95 (symMerge_ok (2 * s) us n i A (A + s) n ?_ ?_ ?_ ?_ ?_ ?_ ?_) ⟨evS, ⟨evS, ⟨evS, ⟨evS, ⟨evS, trivial⟩⟩⟩⟩⟩); all_goals (omega))) ?_; intro i60)
        refine JL_nil ?_
        obtain ⟨ws, hw1, hw2⟩ := i60
        dsimp only
        exact JQ_meetP ws ⟨hd.close hA hlt2 hw1 hw2, hpu.tr (hw2.wide (Nat.zero_le _) (Nat.le_refl _))⟩ esubT lessT
      have hlt3 : n ≤ A + s := by have := of_decide_eq_false h14; omega
      clear h14
      rw [Nat.min_eq_right (by omega)] at r1
      refine JC_skip ?_
      exact JQ_meetP us ⟨hd.close hA hlt2 r1 PI.rfl', hpu⟩ esubT lessT
    rintro ws ⟨hw1, hw2⟩
    refine JC_region (JL_1 rfl (op_move rfl) (JL_1 rfl (op_mul (Ev.rfl' rfl) (Ev.rfl' rfl) wrapT) ?_))
    refine JL_1 rfl (op_assign rfl) (JL_nil (JQ_block ?_))
    exact JQ_roundP (2 * s, ws) ⟨by dsimp only; omega, by dsimp only; omega, hw1, hw2⟩ (by dsimp only; omega) ⟨⟨_, rfl, SubL.rfl'⟩, ⟨_, rfl, SubL.rfl'⟩, ⟨_, rfl, SubL.rfl'⟩, ⟨_, rfl, SubL.eq (ieq (by dsimp only; omega))⟩, trivial⟩ lessT
  have hsn : n ≤ s := by have := of_decide_eq_false h7; omega
  refine JC_exit (JQ_then_exit (JQ_then_exit (JQ_hit (JQ_end ?_))))
  exact JQ_retP (Bs := []) Tryz.results68 trivial ⟨vs, hbl.done hsn, hpv⟩ SubL.rfl' lessT
-- slices.SortStableFunc[[]bodega/api.Page,bodega/api.Page]: function 51
theorem SortStable_ok (xs : List Pg) (n : Nat) (i : Option Addr × Nat) (hn0 : n = xs.length) (hn : xs.length ≤ 1048576) :
    Fn Tryz.prog 51 [Is (slV n i), Is fAsc] [buf (slV n i) 51 tPg xs]
      (fun _ : {ys : List Pg // Srt Pg.l 0 n ys ∧ PI 0 n xs ys} => IsTup []) (fun ys => [buf (slV n i) 51 tPg ys.1]) := by
  refine Fn.enterN Tryz.func51 Tryz.ntmps51 rfl rfl ?_
  intro c hX
  refine JC_region (JL_1 rfl (op_move rfl) (JL_1 rfl (op_move rfl) (JL_1 rfl (by exact op_lenLit (Ev.rfl' rfl) rfl) ?_)))
  refine JL_1 rfl (op_move rfl) ?_
  (refine JL_s rfl (by ((refine op_callT drop1T Tryz.call68 (stable_ok xs n i ?_ ?_) ⟨evS, ⟨evS, ⟨evS, trivial⟩⟩⟩); all_goals (assumption))) ?_; intro i8)
  refine JL_nil (JQ_end ?_)
  obtain ⟨ys, hy⟩ := i8
  exact JQ_retP (Bs := []) Tryz.results51 trivial ⟨ys, hy⟩ SubL.rfl' lessT
-- segment.ascending: function 35
theorem ascending_ok (xs : List Pg) (n : Nat) (i : Option Addr × Nat) (hn0 : n = xs.length) (hn : xs.length ≤ 1048576) :
    Fn Tryz.prog 35 [Is (slV n i)] [buf (slV n i) 51 tPg xs]
      (fun _ : {ys : List Pg // Srt Pg.l 0 n ys ∧ PI 0 n xs ys} => Is (slV n i)) (fun ys => [buf (slV n i) 51 tPg ys.1]) := by
  refine Fn.enterN Tryz.func35 Tryz.ntmps35 rfl rfl ?_
  intro c hX
  refine JC_seq (JC_region (JL_1 rfl (op_assign rfl) (JL_nil ?_)))
  refine JQ_then (JC_seq ?_)
  refine JC_region (JL_1 rfl (op_move rfl) ?_)
  (refine JL_s rfl (by ((refine op_callT drop1T Tryz.call51 (SortStable_ok xs n i ?_ ?_) ⟨evS, ⟨evS, trivial⟩⟩); all_goals (assumption))) ?_; intro i4)
  refine JL_nil ?_
  refine JQ_then (JC_seq ?_)
  obtain ⟨ys, hy⟩ := i4
  dsimp only
  refine JC_region (JL_1 rfl (op_move rfl) (JL_1 rfl (op_assign rfl) (JL_nil ?_)))
  refine JQ_then (JC_ret ?_)
  exact JQ_retP (Bs := [Is (slV n i)]) Tryz.results35 ⟨⟨_, rfl, subT⟩, trivial⟩ ⟨ys, hy⟩ SubL.rfl' lessT
end Go.Proofs.YtfkmbdpnjcgimaaGreat

/- Rules: maps of one's own with integer keys: made, written, looked at, ranged over. Own work. -/
namespace Go.Proofs.YtfkmbdpnjcgimaaGreat
open Go.RowKit
open Go.ChangeMaps (setBlock)
set_option linter.unusedVariables false
set_option linter.unusedSimpArgs false
section
variable {α : Type}
/-- The entries of a map, told: each key with what its element meets. -/
def MapAll (φ : Fz) (V : α → VP) : List (Int × α) → List MapEntry → Prop
  | [], [] => True
  | p :: l, e :: es => (e.key = .int .i64 p.1 ∧ (V p.2).ok φ e.val) ∧ MapAll φ V l es
  | _, _ => False
theorem MapAll.mono {φ φ' : Fz} (h : Fle φ φ') {V : α → VP} : ∀ {l : List (Int × α)} {es : List MapEntry}, MapAll φ V l es → MapAll φ' V l es
  | [], [], _ => trivial
  | p :: l, e :: es, ⟨h1, h2⟩ => ⟨⟨h1.1, (V p.2).mono h h1.2⟩, MapAll.mono h h2⟩
theorem MapAll.len {φ : Fz} {V : α → VP} : ∀ {l : List (Int × α)} {es : List MapEntry}, MapAll φ V l es → l.length = es.length
  | [], [], _ => rfl
  | p :: l, e :: es, ⟨h1, h2⟩ => by simp [MapAll.len h2]
theorem MapAll.get {φ : Fz} {V : α → VP} : ∀ {l : List (Int × α)} {es : List MapEntry} {j : Nat} {p : Int × α}, MapAll φ V l es → l[j]? = some p → ∃ e, es[j]? = some e ∧ e.key = .int .i64 p.1 ∧ (V p.2).ok φ e.val
  | [], [], j, p, _, h => by simp at h
  | q :: l, e :: es, 0, p, ⟨h1, _⟩, h => by simp at h; subst h; exact ⟨e, rfl, h1⟩
  | q :: l, e :: es, j + 1, p, ⟨_, h2⟩, h => by
    obtain ⟨e', h3, h4⟩ := MapAll.get h2 (by simpa using h)
    exact ⟨e', by simpa using h3, h4⟩
theorem MapAll.set {φ : Fz} {V : α → VP} : ∀ {l : List (Int × α)} {es : List MapEntry} (j : Nat) {p : Int × α} {e : MapEntry}, MapAll φ V l es → e.key = .int .i64 p.1 → (V p.2).ok φ e.val → MapAll φ V (l.set j p) (es.set j e)
  | [], [], _, _, _, _, _, _ => trivial
  | q :: l, e :: es, 0, p, f, ⟨_, h2⟩, h3, h4 => ⟨⟨h3, h4⟩, h2⟩
  | q :: l, e :: es, j + 1, p, f, ⟨h1, h2⟩, h3, h4 => ⟨h1, MapAll.set j h2 h3 h4⟩
theorem MapAll.push {φ : Fz} {V : α → VP} : ∀ {l : List (Int × α)} {es : List MapEntry} {p : Int × α} {e : MapEntry}, MapAll φ V l es → e.key = .int .i64 p.1 → (V p.2).ok φ e.val → MapAll φ V (l ++ [p]) (es ++ [e])
  | [], [], _, _, _, h3, h4 => ⟨⟨h3, h4⟩, trivial⟩
  | q :: l, e :: es, p, f, ⟨h1, h2⟩, h3, h4 => ⟨h1, MapAll.push h2 h3 h4⟩
def mput : List (Int × α) → Int → α → List (Int × α)
  | [], k, x => [(k, x)]
  | (j, y) :: l, k, x => if j = k then (k, x) :: l else (j, y) :: mput l k x
def mget : List (Int × α) → Int → Option α
  | [], _ => none
  | (j, y) :: l, k => if j = k then some y else mget l k
theorem find_all {φ : Fz} {V : α → VP} (k : Int) : ∀ {l : List (Int × α)} {es : List MapEntry} (i : Nat), MapAll φ V l es →
    (mget l k = none ∧ Instr.findNow (.int .i64) (.int .i64 k) es i = some none ∧ (∀ x, mput l k x = l ++ [(k, x)]) ∧ ∀ e, e ∈ es → e.key ≠ .int .i64 k) ∨
    ∃ j x e, mget l k = some x ∧ Instr.findNow (.int .i64) (.int .i64 k) es i = some (some (i + j, e.val)) ∧ es[j]? = some e ∧ e.key = .int .i64 k ∧ (V x).ok φ e.val ∧ ∀ y, mput l k y = l.set j (k, y)
  | [], [], i, _ => .inl ⟨rfl, rfl, fun _ => rfl, by simp⟩
  | (m, y) :: l, e :: es, i, ⟨⟨h1, h1'⟩, h2⟩ => by
    by_cases hk : m = k
    · subst hk
      refine .inr ⟨0, y, e, by simp [mget], ?_, rfl, h1, h1', fun z => by simp [mput]⟩
      simp [Instr.findNow, Instr.sameNow, h1]
    · have hs : Instr.sameNow (.int .i64) (.int .i64 k) e.key = some false := by
        rw [h1]
        simp only [Instr.sameNow, if_true]
        rw [show (k == m) = false by simpa using fun h => hk h.symm]
      rcases find_all k (i + 1) h2 with ⟨h3, h4, h5, h6⟩ | ⟨j, x, e', h3, h4, h5, h6, h7, h8⟩
      · refine .inl ⟨by simp [mget, hk, h3], by simp [Instr.findNow, hs, h4], fun x => by simp [mput, hk, h5], fun f hf => ?_⟩
        rcases List.mem_cons.1 hf with rfl | hf
        · rw [h1]; intro e; injection e with _ e; exact hk e
        · exact h6 f hf
      · exact .inr ⟨j + 1, x, e', by simp [mget, hk, h3], by simp [Instr.findNow, hs, h4]; omega, by simpa using h5, h6, h7, fun z => by simp [mput, hk, h8]⟩
/-- A map of one's own. -/
def mp (b : Nat) (V : α → VP) (l : List (Int × α)) : Item := ⟨some b, fun φ o => ∃ es clock, o = some (.map es clock) ∧ MapKept.Stamped es clock ∧ MapAll φ V l es.toList, fun h ⟨es, ck, h1, h2, h3⟩ => ⟨es, ck, h1, h2, h3.mono h⟩⟩
/-- The same while it is ranged over. -/
def mpr (b : Nat) (V : α → VP) (l : List (Int × α)) (bs : List Nat) (ck : Nat) : Item := ⟨some b, fun φ o => ∃ es : Array MapEntry, o = some (.map es ck) ∧ MapKept.Stamped es ck ∧ es.toList.map (·.born) = bs ∧ MapAll φ V l es.toList, fun h ⟨es, h1, h2, h3, h4⟩ => ⟨es, h1, h2, h3, h4.mono h⟩⟩
/-- Who ranges: the places that were handed out. -/
def itr (r b : Nat) (bs : List Nat) (ck : Nat) (S : List Nat) : Item := ⟨some r, fun φ o => o = some (.mapIter (some b) ck (S.map fun j => bs.getD j 0).toArray ck), fun _ h => h⟩
section
variable {P : Program} {c : Ctx} {A : Nat → Option VP} {L : List Item} {d : Option Tmp} {ty : TypeId} {pos : String} {af : Array Edge} {g : Option (Nat × Bool)}
variable {V : α → VP} {l : List (Int × α)} {b : Nat} {x y z : Operand} {t kt et : TypeId}
theorem hp_obj {φ : Fz} {w : World} {b : Nat} {it : Item} (hm : HP c φ L w) (hL : it ∈ L) (hat : it.at_ = some b) : it.ok φ w.heap[b]? ∧ b < w.heap.size ∧ ∀ i, φ b i = none := by
  obtain ⟨h1, h2⟩ := hm.mem.items _ hL
  rw [hat] at h1
  exact ⟨by simpa using h1, h2 b hat⟩
theorem setb_kpt {w : World} {b : Nat} {o : Obj} {it : Item} (hat : it.at_ = some b) : Kpt (names [it]) w (setBlock w b o) := by
  refine ⟨rfl, rfl, rfl, by simp [setBlock], fun k hk hn => ?_⟩
  have hne : b ≠ k := fun e => hn (mem_names.2 ⟨it, List.mem_singleton.2 rfl, by rw [hat, e]⟩)
  simp [setBlock, Array.getElem?_setIfInBounds_ne hne]
theorem setb_here {φ : Fz} {w : World} {b : Nat} {o : Obj} {it : Item} (hat : it.at_ = some b) (hlt : b < w.heap.size) (hno : ∀ i, φ b i = none) (h : it.ok φ (some o)) : it.here φ (setBlock w b o) := by
  refine ⟨?_, fun b' hb' => ?_⟩
  · rw [hat]
    simp [setBlock, hlt, h]
  · rw [hat] at hb'; injection hb' with hb'; subst hb'
    exact ⟨by simp [setBlock]; exact hlt, hno⟩
theorem op_makeMap (V : α → VP) : OpN P c ⟨d, .makeMap t none, ty, pos, af, g⟩ A L (fun b : Nat => .map (some b)) (fun b => mp b V []) := by
  intro φ a w K Q hm he hk
  have hrun : (execOp a.eval ⟨d, .makeMap t none, ty, pos, af, g⟩).run P w = .ok (.value (.map (some w.heap.size))) (w.alloc (.map #[] 0)) := by
    simp only [execOp, Option.map_none]
    refine run_val ?_
    simp [Instr.makeMap]
  unfold Oper.wp
  rw [hrun]
  exact hk w.heap.size φ _ (hp_new (b := 0) hm rfl ⟨#[], 0, rfl, MapKept.stamped_empty 0, trivial⟩)
theorem op_mapPut {k : Int} {v : α} {L' : List Item} (hx : Ev A L x (Is (.map (some b)))) (hy : Ev A L y (Is (.int .i64 k))) (hz : Ev A L z (V v)) (hr : Repl L (mp b V l) (mp b V (mput l k v)) L') (hu : P.underlying t = some (.map kt et)) (hk : P.underlying kt = some (.int .i64)) :
    OpS P c ⟨d, .mapUpdate t x y z, ty, pos, af, g⟩ A L (fun _ : Unit => Is undef) (fun _ => L') := by
  intro φ a w K Q hm he hK
  have h1 : a.eval x = .map (some b) := he x (by simp [Op.operands]) _ hx
  have h2 : a.eval y = .int .i64 k := he y (by simp [Op.operands]) _ hy
  have h3 : (V v).ok φ (a.eval z) := he z (by simp [Op.operands]) _ hz
  obtain ⟨⟨es, ck, e1, e2, e3⟩, hlt, hno⟩ := hp_obj hm hr.mem rfl
  have key : ∃ o : Obj, (execOp a.eval ⟨d, .mapUpdate t x y z, ty, pos, af, g⟩).run P w = .ok .skip (setBlock w b o) ∧ (mp b V (mput l k v)).ok φ (some o) := by
    have hck : (Instr.checkKey false 10000 kt (.int .i64 k)).run P w = .ok () w := MapKept.run_checkKey (k := .int .i64 k) hk (by simp [MapKept.IsKey]) false 9999
    rcases find_all k 0 e3 with ⟨_, f2, f3, f4⟩ | ⟨j, u, e, _, f2, f3, f4, f5, f6⟩
    · refine ⟨.map (es.push ⟨.int .i64 k, a.eval z, ck⟩) (ck + 1), ?_, _, _, rfl, MapKept.stamped_push e2 f4, ?_⟩
      · simp only [execOp, h1, h2, Instr.mapUpdate, Sem.run_bind, run_underlying hu, Result.andThen_ok, MapKept.run_getObj_map e1, hck, MapKept.run_findKey hk f2, MapKept.run_setObj_map _ e1, setBlock, Sem.run_pure]
      · rw [f3, Array.toList_push]
        exact e3.push rfl h3
    · have hj : es[j]? = some e := by simpa using f3
      rw [Nat.zero_add] at f2
      refine ⟨.map (es.modify j fun e' => { e' with key := .int .i64 k, val := a.eval z }) ck, ?_, _, _, rfl, MapKept.stamped_modify e2 _ _ (fun _ _ => rfl) (fun e' _ he' => by rw [hj] at he'; cases he'; exact f4.symm), ?_⟩
      · have hst : (Instr.keyThatStays (.int .i64 k) (.int .i64 k)).run P w = .ok (.int .i64 k) w := by
          simp [Instr.keyThatStays, Instr.sameBits]
        simp only [execOp, h1, h2, Instr.mapUpdate, Sem.run_bind, run_underlying hu, Result.andThen_ok, MapKept.run_getObj_map e1, hck, MapKept.run_findKey hk f2, hj, Option.map_some, Option.getD_some, f4, hst, MapKept.run_setObj_map _ e1, setBlock, Sem.run_pure]
      · have hl : (es.modify j fun e' => { e' with key := .int .i64 k, val := a.eval z }).toList = es.toList.set j { e with key := .int .i64 k, val := a.eval z } := by
          rw [Array.toList_modify, ChangeMaps.modify_eq_set _ _ _ _ f3]
        rw [f6, hl]
        exact e3.set j rfl h3
  obtain ⟨o, hrun, hok⟩ := key
  unfold Oper.wp
  rw [hrun]
  exact hK () φ undef _ Fle.rfl' rfl (hm.upd hr (setb_kpt rfl) (setb_here rfl hlt hno hok) fun b' hb' => .inr hb')
/-- What a look-up gives. -/
def lookV (V : α → VP) (z : Value) : Option α → VP
  | some v => V v
  | none => Is z
theorem run_lookup {φ : Fz} {w : World} {es : Array MapEntry} {ck : Nat} {k : Int} {zv : Value} (cm : Bool) (e1 : w.heap[b]? = some (.map es ck)) (e3 : MapAll φ V l es.toList) (hu : P.underlying t = some (.map kt et)) (hk : P.underlying kt = some (.int .i64)) (hz : (P.info? et).map (·.zero) = some (some zv)) :
    ∃ v, (Instr.lookup t (.map (some b)) (.int .i64 k) cm).run P w = .ok (if cm then .tuple #[v, .bool (mget l k).isSome] else v) w ∧ (lookV V zv (mget l k)).ok φ v := by
  have hck : (Instr.checkKey es.isEmpty 10000 kt (.int .i64 k)).run P w = .ok () w := MapKept.run_checkKey (k := .int .i64 k) hk (by simp [MapKept.IsKey]) _ 9999
  rcases find_all k 0 e3 with ⟨f1, f2, f3, f4⟩ | ⟨j, u, e, f1, f2, f3, f4, f5, f6⟩
  · refine ⟨zv, ?_, by rw [f1]; exact rfl⟩
    simp only [Instr.lookup, Sem.run_bind, run_underlying hu, Result.andThen_ok, MapKept.run_getObj_map e1, Sem.run_pure, hck, MapKept.run_findKey hk f2, run_zero hz, f1, Option.isSome]
  · refine ⟨e.val, ?_, by rw [f1]; exact f5⟩
    simp only [Instr.lookup, Sem.run_bind, run_underlying hu, Result.andThen_ok, MapKept.run_getObj_map e1, Sem.run_pure, hck, MapKept.run_findKey hk f2, f1, Option.isSome]
theorem op_lookup {k : Int} {zv : Value} (hx : Ev A L x (Is (.map (some b)))) (hL : mp b V l ∈ L) (hy : Ev A L y (Is (.int .i64 k))) (hu : P.underlying t = some (.map kt et)) (hk : P.underlying kt = some (.int .i64)) (hz : (P.info? et).map (·.zero) = some (some zv)) :
    OpP P c ⟨d, .lookup t x y false, ty, pos, af, g⟩ A L (lookV V zv (mget l k)) :=
  opp fun φ a w hm he => by
    have h1 : a.eval x = .map (some b) := he x (by simp [Op.operands]) _ hx
    have h2 : a.eval y = .int .i64 k := he y (by simp [Op.operands]) _ hy
    obtain ⟨⟨es, ck, e1, e2, e3⟩, _⟩ := hp_obj hm hL rfl
    obtain ⟨v, f1, f2⟩ := run_lookup (k := k) false e1 e3 hu hk hz
    exact ⟨v, by simp only [execOp, h1, h2]; exact run_val f1, f2⟩
theorem op_lookup2 {k : Int} {zv : Value} (hx : Ev A L x (Is (.map (some b)))) (hL : mp b V l ∈ L) (hy : Ev A L y (Is (.int .i64 k))) (hu : P.underlying t = some (.map kt et)) (hk : P.underlying kt = some (.int .i64)) (hz : (P.info? et).map (·.zero) = some (some zv)) :
    OpP P c ⟨d, .lookup t x y true, ty, pos, af, g⟩ A L (IsTup [lookV V zv (mget l k), Is (.bool (mget l k).isSome)]) :=
  opp fun φ a w hm he => by
    have h1 : a.eval x = .map (some b) := he x (by simp [Op.operands]) _ hx
    have h2 : a.eval y = .int .i64 k := he y (by simp [Op.operands]) _ hy
    obtain ⟨⟨es, ck, e1, e2, e3⟩, _⟩ := hp_obj hm hL rfl
    obtain ⟨v, f1, f2⟩ := run_lookup (k := k) true e1 e3 hu hk hz
    exact ⟨_, by simp only [execOp, h1, h2]; exact run_val f1, ⟨[v, _], rfl, f2, rfl, trivial⟩⟩
/-! ### Ranging -/
theorem op_range {L1 : List Nat → Nat → List Item} (hx : Ev A L x (Is (.map (some b)))) (hr : ∀ bs ck, Repl L (mp b V l) (mpr b V l bs ck) (L1 bs ck)) (hu : P.underlying t = some (.map kt et)) :
    OpS P c ⟨d, .range t x, ty, pos, af, g⟩ A L (fun i : Nat × List Nat × Nat => Is (.pointer (some ⟨i.1, 0, none⟩))) (fun i => itr i.1 b i.2.1 i.2.2 [] :: L1 i.2.1 i.2.2) := by
  intro φ a w K Q hm he hK
  have h1 : a.eval x = .map (some b) := he x (by simp [Op.operands]) _ hx
  obtain ⟨⟨es, ck, e1, e2, e3⟩, hlt, hno⟩ := hp_obj hm (hr [] 0).mem rfl
  have hrun : (execOp a.eval ⟨d, .range t x, ty, pos, af, g⟩).run P w = .ok (.value (.pointer (some ⟨w.heap.size, 0, none⟩))) (w.alloc (.mapIter (some b) ck #[] ck)) := by
    simp only [execOp, h1]
    exact run_val (run_range_map w t kt et b es ck hu e1)
  have hm2 := hm.upd (hr (es.toList.map (·.born)) ck) (Kpt.refl _ w) ⟨by simp only [mpr, Option.bind_some]; exact ⟨es, e1, e2, rfl, e3⟩, fun b' hb' => by
    have hb2 : some b = some b' := hb'
    injection hb2 with hb2; subst hb2; exact ⟨hlt, hno⟩⟩ (fun b' hb' => .inr hb')
  have hm3 := hm2.new (hp_new (b := 0) (it := itr w.heap.size b (es.toList.map (·.born)) ck []) (o := .mapIter (some b) ck #[] ck) hm2 rfl rfl)
  unfold Oper.wp
  rw [hrun]
  exact hK (w.heap.size, es.toList.map (fun x : MapEntry => x.born), ck) φ _ _ Fle.rfl' rfl hm3
/-- A tuple that begins with a Bool. -/
def IsTupB (p : Bool) : VP := ⟨fun _ v => ∃ vs : List Value, v = .tuple (.bool p :: vs).toArray, fun _ h => h⟩
theorem op_extractHd {p : Bool} (hx : Ev A L x (IsTupB p)) : OpP P c ⟨d, .extract x 0, ty, pos, af, g⟩ A L (Is (.bool p)) :=
  opp fun φ a w hm he => by
    obtain ⟨vs, h1⟩ : (IsTupB p).ok φ (a.eval x) := he x (by simp [Op.operands]) _ hx
    refine ⟨.bool p, ?_, rfl⟩
    simp only [execOp, h1, Instr.extract]
    rfl
/-- What a step of a range over a map says. -/
def Stp (n : Nat) (S : List Nat) (p : Bool × List Nat) : Prop := if p.1 then ∃ j, p.2 = S ++ [j] ∧ j < n ∧ j ∉ S else p.2 = S ∧ ∀ j, j < n → j ∈ S
theorem op_next {r : Nat} {bs : List Nat} {ck : Nat} {S : List Nat} {L1 : List Nat → List Item} (hx : Ev A L x (Is (.pointer (some ⟨r, 0, none⟩)))) (hL : mpr b V l bs ck ∈ L) (hr : ∀ S', Repl L (itr r b bs ck S) (itr r b bs ck S') (L1 S')) (hS : ∀ j, j ∈ S → j < l.length) :
    OpS P c ⟨d, .next x false, ty, pos, af, g⟩ A L (fun i : {p : Bool × List Nat // Stp l.length S p} => IsTupB i.1.1) (fun i => L1 i.1.2) := by
  intro φ a w K Q hm he hK
  have h1 : a.eval x = .pointer (some ⟨r, 0, none⟩) := he x (by simp [Op.operands]) _ hx
  obtain ⟨⟨es, e1, e2, e3, e4⟩, _⟩ := hp_obj hm hL rfl
  obtain ⟨i1, hlt, hno⟩ := hp_obj hm (hr []).mem rfl
  have i1' : w.heap[r]? = some (.mapIter (some b) ck (S.map fun j => bs.getD j 0).toArray ck) := i1
  have hlen := e4.len
  have hseen : ∀ j (hj : j < es.toList.length), ((S.map fun j => bs.getD j 0).toArray.contains (es.toList[j]).born = true ↔ j ∈ S) := fun j hj => by
    rw [List.contains_toArray, List.contains_iff_mem, List.mem_map]
    have hbj : bs.getD j 0 = (es.toList[j]).born := by
      rw [← e3, List.getD_eq_getElem?_getD, List.getElem?_map, List.getElem?_eq_getElem hj]; rfl
    constructor
    · rintro ⟨i, hi, hb⟩
      have hi2 : i < es.toList.length := by rw [← hlen]; exact hS i hi
      have hbi : bs.getD i 0 = (es.toList[i]).born := by
        rw [← e3, List.getD_eq_getElem?_getD, List.getElem?_map, List.getElem?_eq_getElem hi2]; rfl
      have hn := ((MapKept.stamped_iff es ck).1 e2).2.1
      have hij : i = j := by
        have h3 : (es.toList.map (·.born))[i]'(by simpa using hi2) = (es.toList.map (·.born))[j]'(by simpa using hj) := by
          rw [List.getElem_map, List.getElem_map, ← hbi, hb]
        exact (List.getElem_inj hn).1 h3
      exact hij ▸ hi
    · exact fun h => ⟨j, h, hbj⟩
  rcases run_next_at (P := P) w ty r b ck ck _ es ck i1' e1 e2.1 (Nat.le_refl _) with ⟨h0, hrun⟩ | ⟨e, he2, w1, hal, hrun⟩
  · unfold Oper.wp
    simp only [execOp, h1]
    rw [run_val hrun]
    refine hK ⟨(false, S), ⟨rfl, fun j hj => ?_⟩⟩ φ _ w Fle.rfl' ⟨[], rfl⟩ (by show HP c φ (L1 S) w; rw [(hr S).same rfl]; exact hm)
    have hj2 : j < es.toList.length := by rw [← hlen]; exact hj
    refine (hseen j hj2).1 ?_
    have hemp : leftOf es (S.map fun j => bs.getD j 0).toArray = #[] := Array.eq_empty_of_size_eq_zero h0
    cases hc : (S.map fun j => bs.getD j 0).toArray.contains (es.toList[j]).born with
    | true => rfl
    | false =>
      have hin : es.toList[j] ∈ leftOf es (S.map fun j => bs.getD j 0).toArray := Array.mem_filter.2 ⟨Array.mem_toList_iff.1 (List.getElem_mem hj2), by rw [hc]; rfl⟩
      rw [hemp] at hin
      simp at hin
  · obtain ⟨m1, m2⟩ := mem_left he2
    obtain ⟨j, hj, hje⟩ := List.getElem_of_mem m1
    have hnot : j ∉ S := fun h => by
      have := (hseen j hj).2 h
      rw [hje, m2] at this; cases this
    have hbj : bs.getD j 0 = e.born := by
      rw [← e3, List.getD_eq_getElem?_getD, List.getElem?_map, List.getElem?_eq_getElem hj]
      simp [hje]
    have hmw : HP c φ L w1 := by
      rcases hal with rfl | rfl
      · exact hm
      · exact hm.drew
    have hlt1 : r < w1.heap.size := by rcases hal with rfl | rfl <;> exact hlt
    have hup := hmw.upd (hr (S ++ [j])) (setb_kpt (b := r) rfl) (setb_here (b := r) (o := .mapIter (some b) ck ((S.map fun j => bs.getD j 0).toArray.push e.born) ck) rfl hlt1 hno (by simp [itr, hbj, List.getD_eq_getElem?_getD] at hbj ⊢; exact hbj.symm)) (fun b' hb' => .inr hb')
    unfold Oper.wp
    simp only [execOp, h1]
    rw [run_val hrun]
    refine hK ⟨(true, S ++ [j]), ⟨j, rfl, by rw [hlen]; exact hj, hnot⟩⟩ φ _ _ Fle.rfl' ⟨_, rfl⟩ hup
theorem op_entry {r j : Nat} {bs : List Nat} {ck : Nat} {S : List Nat} {p : Int × α} (hx : Ev A L x (Is (.pointer (some ⟨r, 0, none⟩)))) (hL : mpr b V l bs ck ∈ L) (hr : itr r b bs ck (S ++ [j]) ∈ L) (hj : l[j]? = some p) :
    OpP P c ⟨d, .entry x, ty, pos, af, g⟩ A L (IsTup [Is (.int .i64 p.1), V p.2]) :=
  opp fun φ a w hm he => by
    have h1 : a.eval x = .pointer (some ⟨r, 0, none⟩) := he x (by simp [Op.operands]) _ hx
    obtain ⟨⟨es, e1, e2, e3, e4⟩, _⟩ := hp_obj hm hL rfl
    obtain ⟨i1, _⟩ := hp_obj hm hr rfl
    obtain ⟨e, f1, f2, f3⟩ := e4.get hj
    have hbj : bs.getD j 0 = e.born := by
      rw [← e3, List.getD_eq_getElem?_getD, List.getElem?_map, f1]; rfl
    have i1' : w.heap[r]? = some (.mapIter (some b) ck ((S.map fun j => bs.getD j 0).toArray.push e.born) ck) := by
      have : w.heap[r]? = some (.mapIter (some b) ck ((S ++ [j]).map fun j => bs.getD j 0).toArray ck) := i1
      rw [this, ← hbj]; simp
    have hrun := run_entry_at (P := P) w r b ck _ es ck e i1' e1 (List.mem_of_getElem? f1) ((MapKept.stamped_iff es ck).1 e2).2.1
    refine ⟨_, by simp only [execOp, h1]; exact run_val hrun, ⟨[e.key, e.val], rfl, ?_, f3, trivial⟩⟩
    rw [f2]; exact rfl
end
end
end Go.Proofs.YtfkmbdpnjcgimaaGreat

/- Contracts: slices joined; the union of two lists of pages, by the program and by the reference. Own work. -/
namespace Go.Proofs.YtfkmbdpnjcgimaaGreat
open Go.RowKit
set_option linter.unusedVariables false
set_option linter.unusedSimpArgs false
set_option maxRecDepth 100000
/-! ### The plain law -/
/-- A page put into an ascending list. -/
def insV : List Pg → Pg → List Pg
  | [], p => [p]
  | q :: l, p => if q.l < p.l then q :: insV l p else if q.l = p.l then p :: l else p :: q :: l
def mergeV (a b : List Pg) : List Pg := (a ++ b).foldl insV []
@[reducible] def Asc (l : List Pg) : Prop := l.Pairwise fun x y => x.l < y.l
theorem mem_insV {p : Pg} : ∀ {l : List Pg}, Asc l → ∀ {x : Pg}, x ∈ insV l p ↔ x = p ∨ (x ∈ l ∧ x.l ≠ p.l)
  | [], _, x => by simp [insV]
  | q :: l, h, x => by
    obtain ⟨h1, h2⟩ := List.pairwise_cons.1 h
    unfold insV
    split
    · rename_i hq
      rw [List.mem_cons, mem_insV h2, List.mem_cons]
      constructor
      · rintro (rfl | rfl | ⟨h3, h4⟩)
        · exact .inr ⟨.inl rfl, by omega⟩
        · exact .inl rfl
        · exact .inr ⟨.inr h3, h4⟩
      · rintro (rfl | ⟨rfl | h3, h4⟩)
        · exact .inr (.inl rfl)
        · exact .inl rfl
        · exact .inr (.inr ⟨h3, h4⟩)
    · rename_i hq
      split
      · rename_i he
        rw [List.mem_cons, List.mem_cons]
        constructor
        · rintro (rfl | h3)
          · exact .inl rfl
          · have := h1 x h3
            exact .inr ⟨.inr h3, by omega⟩
        · rintro (rfl | ⟨rfl | h3, h4⟩)
          · exact .inl rfl
          · exact absurd he h4
          · exact .inr h3
      · rename_i he
        rw [List.mem_cons, List.mem_cons]
        constructor
        · rintro (rfl | rfl | h3)
          · exact .inl rfl
          · exact .inr ⟨.inl rfl, he⟩
          · have := h1 x h3
            exact .inr ⟨.inr h3, by omega⟩
        · rintro (rfl | ⟨h3, h4⟩)
          · exact .inl rfl
          · exact .inr h3
theorem asc_insV {p : Pg} : ∀ {l : List Pg}, Asc l → Asc (insV l p)
  | [], _ => List.pairwise_singleton _ _
  | q :: l, h => by
    obtain ⟨h1, h2⟩ := List.pairwise_cons.1 h
    unfold insV
    split
    · rename_i hq
      refine List.pairwise_cons.2 ⟨fun x hx => ?_, asc_insV h2⟩
      rcases (mem_insV h2).1 hx with rfl | ⟨h3, _⟩
      · exact hq
      · exact h1 x h3
    · rename_i hq
      split
      · rename_i he
        exact List.pairwise_cons.2 ⟨fun x hx => by have := h1 x hx; omega, h2⟩
      · rename_i he
        refine List.pairwise_cons.2 ⟨fun x hx => ?_, h⟩
        rcases List.mem_cons.1 hx with rfl | hx
        · omega
        · have := h1 x hx; omega
theorem asc_fold : ∀ (l : List Pg) {w : List Pg}, Asc w → Asc (l.foldl insV w)
  | [], _, h => h
  | p :: l, _, h => asc_fold l (asc_insV h)
theorem asc_merge (a b : List Pg) : Asc (mergeV a b) := asc_fold _ List.Pairwise.nil
theorem asc_ext : ∀ {xs ys : List Pg}, Asc xs → Asc ys → (∀ x, x ∈ xs ↔ x ∈ ys) → xs = ys
  | [], [], _, _, _ => rfl
  | [], y :: ys, _, _, h => by have := (h y).2 (List.mem_cons_self ..); simp at this
  | x :: xs, [], _, _, h => by have := (h x).1 (List.mem_cons_self ..); simp at this
  | x :: xs, y :: ys, h1, h2, h => by
    obtain ⟨a1, a2⟩ := List.pairwise_cons.1 h1
    obtain ⟨b1, b2⟩ := List.pairwise_cons.1 h2
    have hxy : x = y := by
      rcases List.mem_cons.1 ((h x).1 (List.mem_cons_self ..)) with e | hx
      · exact e
      · rcases List.mem_cons.1 ((h y).2 (List.mem_cons_self ..)) with e | hy
        · exact e.symm
        · have := b1 x hx; have := a1 y hy; omega
    subst hxy
    refine congrArg _ (asc_ext a2 b2 fun z => ⟨fun hz => ?_, fun hz => ?_⟩)
    · rcases List.mem_cons.1 ((h z).1 (List.mem_cons_of_mem _ hz)) with e | hz'
      · subst e; have := a1 z hz; omega
      · exact hz'
    · rcases List.mem_cons.1 ((h z).2 (List.mem_cons_of_mem _ hz)) with e | hz'
      · subst e; have := b1 z hz; omega
      · exact hz'
/-- The map of a list of pages, the last of each line. -/
def mfold (l : List Pg) : List (Int × Pg) := l.foldl (fun m p => mput m p.l p) []
/-- Each page lies at its line; no line twice. -/
structure Keyd (m : List (Int × Pg)) : Prop where
  own : ∀ e, e ∈ m → e.2.l = e.1
  nod : (m.map Prod.fst).Nodup
theorem mput_mem {α : Type} {k : Int} {v : α} : ∀ {m : List (Int × α)}, (m.map Prod.fst).Nodup → ∀ {e : Int × α}, e ∈ mput m k v ↔ e = (k, v) ∨ (e ∈ m ∧ e.1 ≠ k)
  | [], _, e => by simp [mput]
  | (j, y) :: m, h, e => by
    have h' : j ∉ m.map Prod.fst ∧ (m.map Prod.fst).Nodup := List.nodup_cons.1 h
    unfold mput
    split
    · rename_i hj
      subst hj
      rw [List.mem_cons, List.mem_cons]
      constructor
      · rintro (rfl | h3)
        · exact .inl rfl
        · exact .inr ⟨.inr h3, fun e1 => h'.1 (e1 ▸ List.mem_map.2 ⟨e, h3, rfl⟩)⟩
      · rintro (rfl | ⟨rfl | h3, h4⟩)
        · exact .inl rfl
        · exact absurd rfl h4
        · exact .inr h3
    · rename_i hj
      rw [List.mem_cons, mput_mem h'.2, List.mem_cons]
      constructor
      · rintro (rfl | rfl | ⟨h3, h4⟩)
        · exact .inr ⟨.inl rfl, hj⟩
        · exact .inl rfl
        · exact .inr ⟨.inr h3, h4⟩
      · rintro (rfl | ⟨rfl | h3, h4⟩)
        · exact .inr (.inl rfl)
        · exact .inl rfl
        · exact .inr (.inr ⟨h3, h4⟩)
theorem mput_nod {α : Type} {k : Int} {v : α} : ∀ {m : List (Int × α)}, (m.map Prod.fst).Nodup → ((mput m k v).map Prod.fst).Nodup
  | [], _ => by simp [mput]
  | (j, y) :: m, h => by
    have h' : j ∉ m.map Prod.fst ∧ (m.map Prod.fst).Nodup := List.nodup_cons.1 h
    unfold mput
    split
    · rename_i hj
      subst hj
      exact h
    · rename_i hj
      refine List.nodup_cons.2 ⟨fun hm => ?_, mput_nod h'.2⟩
      obtain ⟨e, he, hje⟩ := List.mem_map.1 hm
      rcases (mput_mem h'.2).1 he with rfl | ⟨h3, _⟩
      · exact hj hje.symm
      · exact h'.1 (List.mem_map.2 ⟨e, h3, hje⟩)
theorem Keyd.put {m : List (Int × Pg)} (h : Keyd m) (p : Pg) : Keyd (mput m p.l p) :=
  ⟨fun e he => by
    rcases (mput_mem h.nod).1 he with rfl | ⟨h3, _⟩
    · rfl
    · exact h.own e h3, mput_nod h.nod⟩
theorem Keyd.mem {m : List (Int × Pg)} (h : Keyd m) {p x : Pg} : x ∈ (mput m p.l p).map Prod.snd ↔ x = p ∨ (x ∈ m.map Prod.snd ∧ x.l ≠ p.l) := by
  constructor
  · intro hx
    obtain ⟨e, he, rfl⟩ := List.mem_map.1 hx
    rcases (mput_mem h.nod).1 he with rfl | ⟨h3, h4⟩
    · exact .inl rfl
    · exact .inr ⟨List.mem_map.2 ⟨e, h3, rfl⟩, by rw [h.own e h3]; exact h4⟩
  · rintro (rfl | ⟨hx, hne⟩)
    · exact List.mem_map.2 ⟨(x.l, x), (mput_mem h.nod).2 (.inl rfl), rfl⟩
    · obtain ⟨e, he, rfl⟩ := List.mem_map.1 hx
      exact List.mem_map.2 ⟨e, (mput_mem h.nod).2 (.inr ⟨he, by rw [← h.own e he]; exact hne⟩), rfl⟩
theorem fold_both : ∀ (l : List Pg) (m : List (Int × Pg)) (w : List Pg), Keyd m → Asc w → (∀ x, x ∈ m.map Prod.snd ↔ x ∈ w) →
    Keyd (l.foldl (fun m p => mput m p.l p) m) ∧ ∀ x, x ∈ (l.foldl (fun m p => mput m p.l p) m).map Prod.snd ↔ x ∈ l.foldl insV w
  | [], m, w, h1, _, h3 => ⟨h1, h3⟩
  | p :: l, m, w, h1, h2, h3 => fold_both l (mput m p.l p) (insV w p) (h1.put p) (asc_insV h2) fun x => by rw [h1.mem, mem_insV h2, h3]
theorem mfold_keyd (l : List Pg) : Keyd (mfold l) ∧ ∀ x, x ∈ (mfold l).map Prod.snd ↔ x ∈ l.foldl insV [] :=
  fold_both l [] [] ⟨fun e he => (by cases he), List.nodup_nil⟩ List.Pairwise.nil fun x => by simp
theorem mput_len {α : Type} (k : Int) (v : α) : ∀ m : List (Int × α), (mput m k v).length ≤ m.length + 1
  | [] => by simp [mput]
  | (j, y) :: m => by
    unfold mput
    have := mput_len k v m
    split
    · simp
    · simp only [List.length_cons]; omega
theorem mfold_len (l : List Pg) : (mfold l).length ≤ l.length := by
  have : ∀ (l : List Pg) (m : List (Int × Pg)), (l.foldl (fun m p => mput m p.l p) m).length ≤ m.length + l.length := fun l => by
    induction l with
    | nil => intro m; simp
    | cons p l ih =>
      intro m
      have h1 := ih (mput m p.l p)
      have h2 := mput_len p.l p m
      simp only [List.foldl_cons, List.length_cons]; omega
  have := this l []
  unfold mfold
  simpa using this
/-! ### Places handed out in any order -/
theorem nodup_len : ∀ (n : Nat) {S : List Nat}, S.Nodup → (∀ j, j ∈ S → j < n) → S.length ≤ n
  | 0, S, _, h => by
    match S with
    | [] => simp
    | j :: S => have := h j (List.mem_cons_self ..); omega
  | n + 1, S, hn, h => by
    by_cases hm : n ∈ S
    · have h1 := List.length_erase_of_mem hm
      have h2 := nodup_len n (hn.erase n) fun j hj => by
        have h3 := h j (List.mem_of_mem_erase hj)
        have h4 : j ≠ n := fun e => by subst e; exact (List.Nodup.mem_erase_iff hn).1 hj |>.1 rfl
        omega
      omega
    · have := nodup_len n hn fun j hj => by
        have h3 := h j hj
        have h4 : j ≠ n := fun e => by subst e; exact hm hj
        omega
      omega
theorem nodup_range : ∀ (n : Nat) {S : List Nat}, S.Nodup → (∀ j, j ∈ S ↔ j < n) → S.Perm (List.range n)
  | 0, S, _, h => by
    match S with
    | [] => exact List.Perm.refl _
    | j :: S => have := (h j).1 (List.mem_cons_self ..); omega
  | n + 1, S, hn, h => by
    have hm : n ∈ S := (h n).2 (by omega)
    have h1 : (S.erase n).Perm (List.range n) := nodup_range n (hn.erase n) fun j => by
      rw [List.Nodup.mem_erase_iff hn, h]
      omega
    rw [List.range_succ]
    exact (List.perm_cons_erase hm).trans ((h1.cons n).trans (List.perm_append_singleton _ _).symm)
def pickM (m : List (Int × Pg)) (S : List Nat) : List Pg := S.filterMap fun j => (m[j]?).map Prod.snd
theorem pickM_add {m : List (Int × Pg)} {S : List Nat} {j : Nat} {e : Int × Pg} (h : m[j]? = some e) : pickM m (S ++ [j]) = pickM m S ++ [e.2] := by
  unfold pickM
  rw [List.filterMap_append]
  simp [h]
theorem pickM_len {m : List (Int × Pg)} {S : List Nat} (h : ∀ j, j ∈ S → j < m.length) : (pickM m S).length = S.length := by
  unfold pickM
  induction S with
  | nil => rfl
  | cons j S ih =>
    have hj := h j (List.mem_cons_self ..)
    rw [List.filterMap_cons]
    simp only [List.getElem?_eq_getElem hj, Option.map_some, List.length_cons]
    rw [ih fun i hi => h i (List.mem_cons_of_mem _ hi)]
theorem pickM_all (m : List (Int × Pg)) : pickM m (List.range m.length) = m.map Prod.snd := by
  unfold pickM
  apply List.ext_getElem?
  intro i
  have key : ∀ (m : List (Int × Pg)), (List.range m.length).filterMap (fun j => (m[j]?).map Prod.snd) = m.map Prod.snd := fun m => by
    induction m with
    | nil => rfl
    | cons e m ih =>
      rw [List.length_cons, List.range_succ_eq_map, List.filterMap_cons]
      simp only [List.getElem?_cons_zero, Option.map_some, List.map_cons]
      rw [List.filterMap_map]
      have : ((fun j => ((e :: m)[j]?).map Prod.snd) ∘ Nat.succ) = fun j => (m[j]?).map Prod.snd := by
        funext j; simp
      rw [this, ih]
  rw [key]
theorem merged {a b : List Pg} {S : List Nat} {ys : List Pg} (hn : S.Nodup) (hS : ∀ j, j ∈ S → j < (mfold (a ++ b)).length) (hall : ∀ j, j < (mfold (a ++ b)).length → j ∈ S) (hy : ys.Perm (pickM (mfold (a ++ b)) S)) (hs : Srt Pg.l 0 ys.length ys) : ys = mergeV a b := by
  obtain ⟨hk, hm⟩ := mfold_keyd (a ++ b)
  have h1 : S.Perm (List.range (mfold (a ++ b)).length) := nodup_range _ hn fun j => ⟨hS j, hall j⟩
  have h2 : ys.Perm ((mfold (a ++ b)).map Prod.snd) := by
    rw [← pickM_all]
    exact hy.trans (h1.filterMap _)
  have h3 : (ys.map Pg.l).Nodup := by
    have e : ((mfold (a ++ b)).map Prod.snd).map Pg.l = (mfold (a ++ b)).map Prod.fst := by
      rw [List.map_map]
      exact List.map_congr_left fun e he => hk.own e he
    exact (h2.map Pg.l).nodup_iff.2 (by rw [e]; exact hk.nod)
  exact asc_ext (srt_asc hs h3) (asc_merge a b) fun x => by rw [h2.mem_iff]; exact hm x
/-! ### The reference's way -/
theorem mfold_take {l : List Pg} {k : Nat} {p : Pg} (h : l[k]? = some p) : mfold (l.take (k + 1)) = mput (mfold (l.take k)) p.l p := by
  unfold mfold
  rw [List.take_add_one, h, List.foldl_append]; rfl
/-! ### Contracts -/
def Pg.nil : Pg := ⟨0, 0#64, 0#64, 0#64, 0#64, 0#64, 0#64, 0#64, 0#64⟩
-- slices.Grow[[]bodega/api.Page,bodega/api.Page]: function 117
theorem GrowPg_ok (n : Nat) (hn : n ≤ 1048576) : Fn Tryz.prog 117 [Is (.slice none 0 0), Is (.int .i64 (n : Int))] [] (fun i : Option Addr × Nat => Is (slV 0 i)) (fun i => [buf (slV 0 i) 51 tPg ([] : List Pg)]) := by
  refine Fn.enterN Tryz.func117 Tryz.ntmps117 rfl rfl ?_
  intro c hX
  refine JC_seq (JC_region (JL_1 rfl (op_assign rfl) (JL_nil ?_)))
  refine JQ_then (JC_seq (JC_seq ?_))
  refine JC_region (JL_1 rfl (op_move rfl) (JL_1 rfl (op_lss (Ev.rfl' rfl) (Ev.rfl' rfl)) (JL_nil (JQ_then ?_))))
  refine JC_cond (Ev.rfl' rfl) (fun h1 => ?_) (fun h1 => ?_)
  · exact absurd (of_decide_eq_true h1) (by omega)
  refine JC_skip (JQ_then (JC_seq (JC_seq ?_)))
  refine JC_region (JL_1 rfl (op_move rfl) (JL_1 rfl (op_move rfl) (JL_1 rfl (op_capNil (Ev.rfl' rfl) rfl) (JL_1 rfl (op_move rfl) (JL_1 rfl (by exact op_lenLit (Ev.rfl' rfl) rfl) ?_)))))
  refine JL_1 rfl (op_sub (Ev.rfl' rfl) (Ev.rfl' rfl) wrapT) ?_
  refine JL_1 rfl (op_sub (Ev.rfl' rfl) (Ev.rfl' rfl) wrapT) ?_
  refine JL_1 rfl (op_assign rfl) (JL_nil ?_)
  refine JQ_then (JC_seq ?_)
  refine JC_region (JL_1 rfl (op_move rfl) (JL_1 rfl (op_gtr (Ev.rfl' rfl) (Ev.rfl' rfl)) (JL_nil (JQ_then (JC_cutT (fun i : Option Addr × Nat => True) (fun i => [(0, Is (slV 0 i))]) (fun i => [buf (slV 0 i) 51 tPg ([] : List Pg)]) ?_ ?_)))))
  rotate_left
  focus
    refine JC_cond (Ev.rfl' rfl) (fun h4 => ?_) (fun h4 => ?_)
    · have h0 : 0 < n := by have := of_decide_eq_true h4; omega
      clear h4
      refine JC_region (JL_1 rfl (op_move rfl) (JL_1 rfl (op_move rfl) (JL_1 rfl (op_capNil (Ev.rfl' rfl) rfl) (JL_1 rfl (op_sliceNil (Ev.rfl' rfl) rfl rfl rfl ⟨_, _, (Ev.rfl' rfl), (show _ = ((0 : Nat) : Int) by rfl)⟩) ?_))))
      refine JL_1 rfl (op_move rfl) (JL_set 21 (Is (.int .i64 (n : Int))) rfl (SubL.eq (ieq (by omega))) ?_)
      (refine JL_n rfl (op_appMake tPg Pg.nil (k := n) (Ev.rfl' rfl) (Ev.rfl' rfl) rfl rfl rfl rfl rfl (by rfl) lenT lenT (by rfl) (by rfl)) ?_; intro i22)
      refine JL_1 rfl (op_move rfl) (JL_1 rfl (by exact op_lenLit (Ev.rfl' rfl) rfl) ?_)
      refine JL_1 rfl (op_sliceLo (h := 0) (Ev.rfl' rfl) memT rfl rfl rfl ⟨_, _, (Ev.rfl' rfl), (show _ = ((0 : Nat) : Int) by rfl)⟩ lenT) ?_
      refine JL_1 rfl (op_assign rfl) (JL_nil (JQ_cutBuf (h := 0) replT (Nat.zero_le _) ?_))
      exact JQ_meetP i22 trivial esubT lessT
    refine JC_skip (JQ_buf0 51 tPg ?_)
    exact JQ_meetP (none, 0) trivial esubT lessT
  rintro i _
  refine JC_seq (JC_region (JL_1 rfl (op_move rfl) (JL_1 rfl (op_assign rfl) (JL_nil ?_))))
  refine JQ_then (JC_ret ?_)
  exact JQ_retP (Bs := [Is (slV 0 i)]) Tryz.results117 ⟨⟨_, rfl, subT⟩, trivial⟩ i SubL.rfl' lessT
theorem flatC_len {l : List (List Pg)} {k : Nat} {z : List Pg} (h : l[k]? = some z) : ((l.take (k + 1)).flatten).length = ((l.take k).flatten).length + z.length ∧ ((l.take (k + 1)).flatten).length ≤ l.flatten.length := by
  constructor
  · rw [List.take_add_one, h]; simp
  · conv => rhs; rw [← List.take_append_drop (k + 1) l, List.flatten_append, List.length_append]
    omega
-- slices.Concat[[]bodega/api.Page,bodega/api.Page]: function 101
theorem ConcatPg_ok (l : List (List Pg)) (hn : l.flatten.length ≤ 1048576) : Fn Tryz.prog 101 [IsSl (tSl tPg) l] [] (fun i : Option Addr × Nat => Is (slV l.flatten.length i)) (fun i => [buf (slV l.flatten.length i) 51 tPg l.flatten]) := by
  refine Fn.enterN Tryz.func101 Tryz.ntmps101 rfl rfl ?_
  intro c hX
  refine JC_len (t := 0) rfl (fun hll => ?_)
  refine JC_seq (JC_region (JL_1 rfl (op_assign rfl) (JL_nil ?_)))
  refine JQ_then (JC_seq ?_)
  refine JC_region (JL_1 rfl (op_assign rfl) (JL_nil ?_))
  refine JQ_then (JC_seq (JC_seq ?_))
  refine JC_region (JL_1 rfl (op_move rfl) (JL_1 rfl (by exact op_len (Ev.rfl' rfl) rfl) ?_))
  refine JL_1 rfl (op_move rfl) (JL_nil ?_)
  refine JQ_then (JC_block ?_)
  refine JC_loopP (fun k : Nat => k ≤ l.length) (fun k => [(0, IsSl (tSl tPg) l), (3, Is (.int .i64 (((l.take k).flatten).length : Nat))), (9, IsSl (tSl tPg) l), (10, Is (.int .i64 l.length)), (11, Is (.int .i64 (k : Nat)))]) (fun k => []) (fun k => l.length - k) 0 (Nat.zero_le _) esubT lessT ?_
  rintro k hk
  refine JC_seq (JC_region (JL_1 rfl (op_lss (Ev.rfl' rfl) (Ev.rfl' rfl)) (JL_nil ?_)))
  refine JQ_then (JC_seq ?_)
  refine JC_cond (Ev.rfl' rfl) (fun h3 => ?_) (fun h3 => ?_)
  · have hlt : k < l.length := by have := of_decide_eq_true h3; omega
    clear h3
    obtain ⟨z, hz⟩ : ∃ z, l[k]? = some z := ⟨l[k], List.getElem?_eq_getElem hlt⟩
    obtain ⟨e1, e2⟩ := flatC_len hz
    refine JC_skip (JQ_then (JC_seq (JC_block (JC_seq ?_))))
    refine JC_region (JL_1 rfl (by exact op_index (j := _) (Ev.rfl' rfl) (Ev.rfl' rfl) rfl rfl (by rfl) (by assumption)) ?_)
    refine JL_1 rfl (by exact op_loadRef (Ev.rfl' rfl) rfl rfl rfl) ?_
    refine JL_1 rfl (op_assign rfl) (JL_nil ?_)
    refine JQ_then (JC_seq ?_)
    refine JC_region (JL_1 rfl (op_move rfl) (JL_1 rfl (op_move rfl) (JL_1 rfl (by exact op_len (Ev.rfl' rfl) rfl) ?_)))
    refine JL_1 rfl (op_add (Ev.rfl' rfl) (Ev.rfl' rfl) wrapT) ?_
    refine JL_1 rfl (op_assign rfl) (JL_nil ?_)
    refine JQ_then (JC_seq ?_)
    refine JC_region (JL_1 rfl (op_move rfl) (JL_1 rfl (op_lss (Ev.rfl' rfl) (Ev.rfl' rfl)) (JL_nil (JQ_then ?_))))
    refine JC_cond (Ev.rfl' rfl) (fun h6 => ?_) (fun h6 => ?_)
    · exact absurd (of_decide_eq_true h6) (by omega)
    refine JC_skip (JQ_block (JQ_then ?_))
    refine JC_region (JL_1 rfl (op_add (Ev.rfl' rfl) (Ev.rfl' rfl) wrapT) ?_)
    refine JL_1 rfl (op_move rfl) (JL_nil ?_)
    exact JQ_roundP (k + 1) (by omega) (by omega) ⟨⟨_, rfl, SubL.rfl'⟩, ⟨_, rfl, SubL.eq (ieq (by omega))⟩, ⟨_, rfl, SubL.rfl'⟩, ⟨_, rfl, SubL.rfl'⟩, ⟨_, rfl, SubL.eq (ieq (by omega))⟩, trivial⟩ lessT
  have hke : k = l.length := by have := of_decide_eq_false h3; omega
  subst hke
  rw [List.take_length]
  refine JC_exit (JQ_then_exit (JQ_then_exit (JQ_hit (JQ_then (JC_seq ?_)))))
  refine JC_region (JL_1 rfl (op_move rfl) ?_)
  (refine JL_s rfl (by ((refine op_callN Tryz.call117 (GrowPg_ok _ ?_) ⟨evS, ⟨evS, trivial⟩⟩); all_goals (assumption))) ?_; intro i24)
  refine JL_1 rfl (op_assign rfl) (JL_nil ?_)
  refine JQ_then (JC_seq (JC_seq ?_))
  refine JC_region (JL_1 rfl (op_move rfl) (JL_1 rfl (by exact op_len (Ev.rfl' rfl) rfl) ?_))
  refine JL_1 rfl (op_move rfl) (JL_nil ?_)
  refine JQ_then (JC_block ?_)
  refine JC_loopP (fun z : Nat × (Option Addr × Nat) => z.1 ≤ l.length) (fun z => [(6, Is (slV ((l.take z.1).flatten).length z.2)), (25, IsSl (tSl tPg) l), (26, Is (.int .i64 l.length)), (27, Is (.int .i64 (z.1 : Nat)))]) (fun z => [buf (slV ((l.take z.1).flatten).length z.2) 51 tPg (l.take z.1).flatten]) (fun z => l.length - z.1) (0, i24) (Nat.zero_le _) esubT lessT ?_
  rintro ⟨k, s⟩ hk
  dsimp only at hk ⊢
  refine JC_seq (JC_region (JL_1 rfl (op_lss (Ev.rfl' rfl) (Ev.rfl' rfl)) (JL_nil ?_)))
  refine JQ_then (JC_seq ?_)
  refine JC_cond (Ev.rfl' rfl) (fun h11 => ?_) (fun h11 => ?_)
  · have hlt : k < l.length := by have := of_decide_eq_true h11; omega
    clear h11
    obtain ⟨z, hz⟩ : ∃ z, l[k]? = some z := ⟨l[k], List.getElem?_eq_getElem hlt⟩
    obtain ⟨e1, e2⟩ := flatC_len hz
    have e3 : (l.take (k + 1)).flatten = (l.take k).flatten ++ z := by rw [List.take_add_one, hz]; simp
    refine JC_skip (JQ_then (JC_seq (JC_block (JC_seq ?_))))
    refine JC_region (JL_1 rfl (by exact op_index (j := _) (Ev.rfl' rfl) (Ev.rfl' rfl) rfl rfl (by rfl) (by assumption)) ?_)
    refine JL_1 rfl (by exact op_loadRef (Ev.rfl' rfl) rfl rfl rfl) ?_
    refine JL_1 rfl (op_assign rfl) (JL_nil (JQ_then (JC_region (JL_1 rfl (op_move rfl) (JL_1 rfl (op_move rfl) ?_)))))
    (refine JL_s rfl (op_app (Ev.rfl' rfl) (fun _ => replT) evS (by exact appT rfl rfl rfl) lenT) ?_; intro i33)
    refine JL_1 rfl (op_assign rfl) (JL_nil ?_)
    refine JQ_block (JQ_then ?_)
    refine JC_region (JL_1 rfl (op_add (Ev.rfl' rfl) (Ev.rfl' rfl) wrapT) ?_)
    refine JL_1 rfl (op_move rfl) (JL_nil ?_)
    rw [← e3]
    exact JQ_roundP (k + 1, i33) (by dsimp only; omega) (by dsimp only; omega) ⟨⟨_, rfl, SubL.rfl'⟩, ⟨_, rfl, SubL.rfl'⟩, ⟨_, rfl, SubL.rfl'⟩, ⟨_, rfl, SubL.eq (ieq (by dsimp only; omega))⟩, trivial⟩ lessT
  have hke : k = l.length := by have := of_decide_eq_false h11; omega
  subst hke
  rw [List.take_length]
  refine JC_exit (JQ_then_exit (JQ_then_exit (JQ_hit (JQ_then (JC_seq ?_)))))
  refine JC_region (JL_1 rfl (op_move rfl) (JL_1 rfl (op_assign rfl) (JL_nil ?_)))
  refine JQ_then (JC_ret ?_)
  exact JQ_retP (Bs := [Is (slV l.flatten.length s)]) Tryz.results101 ⟨⟨_, rfl, subT⟩, trivial⟩ s SubL.rfl' lessT
-- segment.Merge: function 79
set_option maxHeartbeats 1000000 in
theorem MergeN_ok (a b : List Pg) (hn : a.length + b.length ≤ 1048576) : Fn Tryz.prog 79 [IsSl tPg a, IsSl tPg b] [] (fun i : Option Addr × Nat => Is (slV (mergeV a b).length i)) (fun i => [buf (slV (mergeV a b).length i) 51 tPg (mergeV a b)]) := by
  have hfl : ([a, b] : List (List Pg)).flatten = a ++ b := by simp
  have hcl : ([a, b] : List (List Pg)).flatten.length ≤ 1048576 := by rw [hfl, List.length_append]; exact hn
  obtain ⟨hk, _⟩ := mfold_keyd (a ++ b)
  have hml := mfold_len (a ++ b)
  rw [List.length_append] at hml
  refine Fn.enterN Tryz.func79 Tryz.ntmps79 rfl rfl ?_
  intro c hX
  refine JC_seq (JC_region (JL_1 rfl (op_assign rfl) (JL_nil ?_)))
  refine JQ_then (JC_seq ?_)
  refine JC_region ?_
  (refine JL_n rfl (op_makeMap IsPg) ?_; intro i11)
  refine JL_1 rfl (op_assign rfl) (JL_nil ?_)
  refine JQ_then (JC_seq (JC_seq ?_))
  refine JC_region (JL_1 rfl (op_move rfl) (JL_1 rfl (op_move rfl) (JL_1 rfl (op_buildSlice (size := 1) (qs := [(0, _), (1, _)]) rfl rfl rfl ⟨⟨rfl, _, (Ev.rfl' rfl), cellsT⟩, ⟨⟨rfl, _, (Ev.rfl' rfl), cellsT⟩, trivial⟩⟩ (by rfl) (by rfl)) ?_)))
  (refine JL_s rfl (by ((refine op_callN Tryz.call101 (ConcatPg_ok [a, b] ?_) ⟨evS, trivial⟩); all_goals (assumption))) ?_; intro i15)
  refine JL_1 rfl (by exact op_lenLit (Ev.rfl' rfl) rfl) ?_
  refine JL_1 rfl (op_move rfl) (JL_nil ?_)
  refine JQ_then (JC_block ?_)
  rw [hfl]
  refine JC_freeze hX (v := slV (a ++ b).length i15) replT ?_
  refine JC_set 15 (IsSl tPg (a ++ b)) rfl (SubL.fact memT) ?_
  refine JC_len (t := 15) rfl (fun hll => ?_)
  refine JC_loopP (fun k : Nat => k ≤ (a ++ b).length) (fun k => [(5, Is (.map (some i11))), (15, IsSl tPg (a ++ b)), (16, Is (.int .i64 (a ++ b).length)), (17, Is (.int .i64 (k : Nat)))]) (fun k => [mp i11 IsPg (mfold ((a ++ b).take k))]) (fun k => (a ++ b).length - k) 0 (Nat.zero_le _) esubT lessT ?_
  rintro k hk
  refine JC_seq (JC_region (JL_1 rfl (op_lss (Ev.rfl' rfl) (Ev.rfl' rfl)) (JL_nil ?_)))
  refine JQ_then (JC_seq ?_)
  refine JC_cond (Ev.rfl' rfl) (fun h3 => ?_) (fun h3 => ?_)
  · have hlt : k < (a ++ b).length := by have := of_decide_eq_true h3; omega
    clear h3
    obtain ⟨z, hz⟩ : ∃ z, (a ++ b)[k]? = some z := ⟨(a ++ b)[k], List.getElem?_eq_getElem hlt⟩
    refine JC_skip (JQ_then (JC_seq (JC_block (JC_seq ?_))))
    refine JC_region (JL_1 rfl (by exact op_index (j := _) (Ev.rfl' rfl) (Ev.rfl' rfl) rfl rfl (by rfl) (by assumption)) ?_)
    refine JL_1 rfl (by exact op_loadRefsN (n := 9) (Ev.rfl' rfl) rfl rfl rfl (by rfl) nrmT) ?_
    (refine JL_n rfl (op_allocN rfl nrmT rfl) ?_; intro i7)
    refine JL_s0 (op_storeN (Ev.rfl' rfl) (Ev.rfl' rfl) cellsT replT nrmT (by rfl) (by rfl) (by rfl)) ?_
    refine JL_nil (JQ_then (JC_region (JL_1 rfl (op_move rfl) (JL_1 rfl (by exact op_fieldPtr (k := 0) (Ev.rfl' rfl) rfl rfl rfl rfl) ?_))))
    refine JL_1 rfl (by exact op_loadPtr (Ev.rfl' rfl) memT (by rfl) (by rfl) (by rfl)) ?_
    refine JL_1 rfl (by exact op_loadPtrsN (n := 9) (Ev.rfl' rfl) memT (by rfl) (by rfl) (by rfl) (by rfl) nrmT) ?_
    refine JL_s0 (op_mapPut (V := IsPg) (v := z) (Ev.rfl' rfl) (Ev.rfl' rfl) evS replT rfl rfl) ?_
    refine JL_nil ?_
    refine JQ_block (JQ_then ?_)
    refine JC_region (JL_1 rfl (op_add (Ev.rfl' rfl) (Ev.rfl' rfl) wrapT) ?_)
    refine JL_1 rfl (op_move rfl) (JL_nil ?_)
    rw [← mfold_take hz]
    exact JQ_roundP (k + 1) (by omega) (by omega) esubT lessT
  have hke : k = (a ++ b).length := by have := of_decide_eq_false h3; omega
  subst hke
  clear h3
  rw [List.take_length]
  refine JC_exit (JQ_then_exit (JQ_then_exit (JQ_hit (JQ_then (JC_seq ?_)))))
  refine JC_region (JL_1 rfl (op_assign rfl) (JL_nil ?_))
  refine JQ_then (JC_seq (JC_seq ?_))
  refine JC_region (JL_1 rfl (op_move rfl) ?_)
  (refine JL_s rfl (op_range (Ev.rfl' rfl) (fun _ _ => replT) rfl) ?_; intro i27)
  refine JL_nil ?_
  refine JQ_then (JC_block ?_)
  refine JC_buf0 51 tPg (JC_loopP (fun z : List Nat × (Option Addr × Nat) => z.1.Nodup ∧ ∀ j, j ∈ z.1 → j < (mfold (a ++ b)).length) (fun z => [(8, Is (slV (pickM (mfold (a ++ b)) z.1).length z.2)), (27, Is (.pointer (some ⟨i27.1, 0, none⟩)))]) (fun z => [buf (slV (pickM (mfold (a ++ b)) z.1).length z.2) 51 tPg (pickM (mfold (a ++ b)) z.1), itr i27.1 i11 i27.2.1 i27.2.2 z.1, mpr i11 IsPg (mfold (a ++ b)) i27.2.1 i27.2.2]) (fun z => (mfold (a ++ b)).length - z.1.length) ([], (none, 0)) ⟨List.nodup_nil, fun j hj => by cases hj⟩ esubT lessT ?_)
  rintro ⟨S, s⟩ ⟨hnd, hS⟩
  dsimp only at hnd hS ⊢
  have hpl := pickM_len hS
  have hsl := nodup_len _ hnd hS
  refine JC_seq (JC_region ?_)
  (refine JL_s rfl (op_next (Ev.rfl' rfl) memT (fun _ => replT) (by assumption)) ?_; intro i28)
  refine JL_1 rfl (by exact op_extractHd (Ev.rfl' rfl)) ?_
  refine JL_nil ?_
  refine JQ_then (JC_seq ?_)
  obtain ⟨⟨more, Sf⟩, hst⟩ := i28
  dsimp only
  refine JC_cond (Ev.rfl' rfl) (fun h9 => ?_) (fun h9 => ?_)
  · subst h9
    obtain ⟨j, e1, hj, hjn⟩ : ∃ j, Sf = S ++ [j] ∧ j < (mfold (a ++ b)).length ∧ j ∉ S := hst
    subst e1
    obtain ⟨⟨kj, xj⟩, hej⟩ : ∃ e, (mfold (a ++ b))[j]? = some e := ⟨(mfold (a ++ b))[j], List.getElem?_eq_getElem hj⟩
    have hnd' : (S ++ [j]).Nodup := List.nodup_append.2 ⟨hnd, by simp, fun x hx y hy => by rw [List.mem_singleton] at hy; subst hy; exact fun e => hjn (e ▸ hx)⟩
    have hSj : ∀ i, i ∈ S ++ [j] → i < (mfold (a ++ b)).length := fun i hi => by
      rcases List.mem_append.1 hi with hi | hi
      · exact hS i hi
      · rw [List.mem_singleton] at hi; subst hi; exact hj
    have hsl' := nodup_len _ hnd' hSj
    rw [List.length_append, List.length_singleton] at hsl'
    refine JC_skip (JQ_then (JC_block (JC_seq ?_)))
    refine JC_region (JL_1 rfl (op_entry (Ev.rfl' rfl) memT memT hej) ?_)
    refine JL_1 rfl (op_extract (Ev.rfl' rfl) rfl) ?_
    (refine JL_n rfl (op_allocN rfl nrmT rfl) ?_; intro i10)
    refine JL_s0 (op_storeN (Ev.rfl' rfl) (Ev.rfl' rfl) cellsT replT nrmT (by rfl) (by rfl) (by rfl)) ?_
    refine JL_nil (JQ_then (JC_region (JL_1 rfl (op_move rfl) (JL_1 rfl (by exact op_loadPtrsN (n := 9) (Ev.rfl' rfl) memT (by rfl) (by rfl) (by rfl) (by rfl) nrmT) ?_))))
    refine JL_1 rfl (op_buildSlice (size := 9) (qs := [(0, _)]) rfl rfl rfl ⟨⟨rfl, _, (Ev.rfl' rfl), cellsT⟩, trivial⟩ (by rfl) (by rfl)) ?_
    (refine JL_s rfl (op_app (Ev.rfl' rfl) (fun _ => replT) (by exact Ev.sub rfl (by exact SubL.row (xs := [xj]) (by rfl) (by rfl) subsT)) (by exact appT rfl rfl rfl) lenT) ?_; intro i35)
    refine JL_1 rfl (op_assign rfl) (JL_nil (JQ_block ?_))
    rw [← pickM_add hej]
    exact JQ_roundP (S ++ [j], i35) ⟨hnd', hSj⟩ (by dsimp only; rw [List.length_append, List.length_singleton]; omega) esubT lessT
  subst h9
  obtain ⟨e1, hall⟩ : Sf = S ∧ ∀ j, j < (mfold (a ++ b)).length → j ∈ S := hst
  subst e1
  have hpl2 : (pickM (mfold (a ++ b)) Sf).length ≤ 1048576 := by omega
  refine JC_exit (JQ_then_exit (JQ_then_exit (JQ_hit (JQ_then (JC_seq ?_)))))
  refine JC_region (JL_1 rfl (op_move rfl) ?_)
  (refine JL_s rfl (by ((refine op_callT drop1T Tryz.call35 (ascending_ok (pickM (mfold (a ++ b)) Sf) (pickM (mfold (a ++ b)) Sf).length s rfl ?_) ⟨evS, trivial⟩); all_goals (assumption))) ?_; intro i37)
  refine JL_1 rfl (op_assign rfl) (JL_nil ?_)
  refine JQ_then (JC_ret ?_)
  obtain ⟨ys, hy1, hy2⟩ := i37
  dsimp only
  have hym : ys = mergeV a b := merged hnd hS hall hy2.perm (by rw [hy2.len]; exact hy1)
  have hyl : (pickM (mfold (a ++ b)) Sf).length = (mergeV a b).length := by rw [← hym]; exact hy2.len.symm
  rw [hyl, hym]
  exact JQ_retP (Bs := [Is (slV (mergeV a b).length s)]) Tryz.results79 ⟨⟨_, rfl, subT⟩, trivial⟩ s SubL.rfl' lessT
end Go.Proofs.YtfkmbdpnjcgimaaGreat

/- Contracts: the reference's union of two lists of pages; lists of pages compared. Own work. -/
namespace Go.Proofs.YtfkmbdpnjcgimaaGreat
open Go.RowKit
set_option linter.unusedVariables false
set_option linter.unusedSimpArgs false
set_option maxRecDepth 100000
end Go.Proofs.YtfkmbdpnjcgimaaGreat

/- The data of pages, compared. Own work. -/
namespace Go.Proofs.YtfkmbdpnjcgimaaGreat
open Go.RowKit
set_option linter.unusedVariables false
set_option linter.unusedSimpArgs false
def dataV (p : Pg) : List Value := [.int .u64 (UV p.d0), .int .u64 (UV p.d1), .int .u64 (UV p.d2), .int .u64 (UV p.d3), .int .u64 (UV p.d4), .int .u64 (UV p.d5), .int .u64 (UV p.d6)]
def dataB (p q : Pg) : Bool := p.d0 == q.d0 && (p.d1 == q.d1 && (p.d2 == q.d2 && (p.d3 == q.d3 && (p.d4 == q.d4 && (p.d5 == q.d5 && p.d6 == q.d6)))))
theorem eqD_run (p q : Pg) (w : World) : (Op.equal 49 (.agg (dataV p).toArray) (.agg (dataV q).toArray)).run Tryz.prog w = .ok (dataB p q) w :=
  eq7 9998 w p.d0 p.d1 p.d2 p.d3 p.d4 p.d5 p.d6 q.d0 q.d1 q.d2 q.d3 q.d4 q.d5 q.d6
theorem eqD_guard (o : BinOp) (x y : Operand) (p q : Pg) (w : World) : (eqGuard o 49 x y (.agg (dataV p).toArray) (.agg (dataV q).toArray)).run Tryz.prog w = .ok () w := by
  have h : Tryz.prog.eqGuardType Tryz.prog.depth 49 = false := by kernel_rfl
  cases o <;> simp [eqGuard, program, Sem.run, h]
theorem eqD_neq (p q : Pg) (w : World) : (binOp .neq 49 (.agg (dataV p).toArray) (.agg (dataV q).toArray)).run Tryz.prog w = .ok (.bool (!dataB p q)) w := by
  simp only [binOp, Sem.run_bind, eqD_run, Result.andThen_ok, Sem.run_pure]
end Go.Proofs.YtfkmbdpnjcgimaaGreat

/- Contracts: lists of pages and of numbers compared; what a call returns in memory of its own, told as what stays. Own work. -/
namespace Go.Proofs.YtfkmbdpnjcgimaaGreat
open Go.RowKit
set_option linter.unusedVariables false
set_option linter.unusedSimpArgs false
set_option maxRecDepth 100000
end Go.Proofs.YtfkmbdpnjcgimaaGreat

/- Rule: a part of an array that stays, as a slice. Own work. -/
namespace Go.Proofs.YtfkmbdpnjcgimaaGreat
open Go.RowKit
set_option linter.unusedVariables false
set_option linter.unusedSimpArgs false
section
variable {P : Program} {c : Ctx} {A : Nat → Option VP} {L : List Item} {d : Option Tmp} {ty : TypeId} {pos : String} {af : Array Edge} {g : Option (Nat × Bool)}
variable {α : Type} {T : Ty α}
end
end Go.Proofs.YtfkmbdpnjcgimaaGreat

/- Contracts: segments, their lines; header pages read and written, by the program and by the reference. Own work. -/
namespace Go.Proofs.YtfkmbdpnjcgimaaGreat
open Go.RowKit
set_option linter.unusedVariables false
set_option linter.unusedSimpArgs false
set_option maxRecDepth 100000
def sizeB (l : Int) : Bool := decide (l ≥ 104) && decide (l ≤ 256)
def clientB (l : Int) : Bool := decide (l ≥ 0) && decide (l < 6)
def ownB (l : Int) : Bool := decide (l ≥ 98) && decide (l < 104)
def countV (l : Int) : Int := if 104 ≤ l ∧ l ≤ 256 then (l - 104) / 16 else 0
def lineV (s : Int) : Int := if 0 ≤ s ∧ s ≤ 8 then 104 + 16 * s else -1
def hdrB (l : Int) : Bool := decide (104 ≤ l ∧ l < 248 ∧ (l - 104) % 16 = 0)
def locV (lines line : Int) : Int × Int × Bool := if 104 ≤ line ∧ line < 104 + 16 * countV lines ∧ (line - 104) % 16 ≠ 0 then ((line - 104) / 16, (line - 104) % 16, true) else (0, 0, false)
theorem count_rng (l : Int) : 0 ≤ countV l ∧ countV l ≤ 9 := by unfold countV; split <;> omega
theorem line_rng (s : Int) : -1 ≤ lineV s ∧ lineV s ≤ 232 := by unfold lineV; split <;> omega
theorem size_iff {l : Int} : sizeB l = true ↔ 104 ≤ l ∧ l ≤ 256 := by unfold sizeB; simp
theorem size_not {l : Int} : sizeB l = false ↔ ¬ (104 ≤ l ∧ l ≤ 256) := by rw [← size_iff]; simp
-- segment.isSize: function 24
theorem isSize_ok (l : Int) : FnP Tryz.prog 24 [Is (.int .i64 l)] (Is (.bool (sizeB l))) := by
  refine FnP.enter Tryz.func24 Tryz.ntmps24 rfl rfl ?_
  intro c hX
  refine JC_seq (JC_region (JL_1 rfl (op_assign rfl) (JL_nil ?_)))
  refine JQ_then (JC_seq ?_)
  refine JC_region (JL_1 rfl (op_move rfl) (JL_1 rfl (op_geq (Ev.rfl' rfl) (Ev.rfl' rfl)) (JL_1 rfl (op_move rfl) ?_)))
  (refine JL_i0 rfl rfl rfl (fun hg => (by have hg0 := hg; (try simp at hg); exact op_moveE (Ev.rfl' rfl))) ?_)
  (refine JL_i0 rfl rfl rfl (fun hg => (by have hg0 := hg; (try simp at hg); exact op_leq evG evG)) ?_)
  refine JL_1 rfl (op_and (Ev.rfl' rfl) rfl (fun h => by exact SubL.iteT (by (rw [h]; rfl)) SubL.rfl')) ?_
  refine JL_1 rfl (op_assign rfl) (JL_nil ?_)
  refine JQ_then (JC_ret ?_)
  refine JQ_ret1 Tryz.results24 rfl () (SubL.eq ?_) (List.nil_sublist _)
  rfl
-- segment.isClient: function 23
theorem isClient_ok (l : Int) : FnP Tryz.prog 23 [Is (.int .i64 l)] (Is (.bool (clientB l))) := by
  refine FnP.enter Tryz.func23 Tryz.ntmps23 rfl rfl ?_
  intro c hX
  refine JC_seq (JC_region (JL_1 rfl (op_assign rfl) (JL_nil ?_)))
  refine JQ_then (JC_seq ?_)
  refine JC_region (JL_1 rfl (op_move rfl) (JL_1 rfl (op_geq (Ev.rfl' rfl) (Ev.rfl' rfl)) (JL_1 rfl (op_move rfl) ?_)))
  (refine JL_i0 rfl rfl rfl (fun hg => (by have hg0 := hg; (try simp at hg); exact op_moveE (Ev.rfl' rfl))) ?_)
  (refine JL_i0 rfl rfl rfl (fun hg => (by have hg0 := hg; (try simp at hg); exact op_lss evG evG)) ?_)
  refine JL_1 rfl (op_and (Ev.rfl' rfl) rfl (fun h => by exact SubL.iteT (by (rw [h]; rfl)) SubL.rfl')) ?_
  refine JL_1 rfl (op_assign rfl) (JL_nil ?_)
  refine JQ_then (JC_ret ?_)
  refine JQ_ret1 Tryz.results23 rfl () (SubL.eq ?_) (List.nil_sublist _)
  rfl
-- segment.isNodeLine: function 20
theorem isNodeLine_ok (l : Int) : FnP Tryz.prog 20 [Is (.int .i64 l)] (Is (.bool (ownB l))) := by
  refine FnP.enter Tryz.func20 Tryz.ntmps20 rfl rfl ?_
  intro c hX
  refine JC_seq (JC_region (JL_1 rfl (op_assign rfl) (JL_nil ?_)))
  refine JQ_then (JC_seq ?_)
  refine JC_region (JL_1 rfl (op_move rfl) (JL_1 rfl (op_geq (Ev.rfl' rfl) (Ev.rfl' rfl)) (JL_1 rfl (op_move rfl) ?_)))
  (refine JL_i0 rfl rfl rfl (fun hg => (by have hg0 := hg; (try simp at hg); exact op_moveE (Ev.rfl' rfl))) ?_)
  (refine JL_i0 rfl rfl rfl (fun hg => (by have hg0 := hg; (try simp at hg); exact op_lss evG evG)) ?_)
  refine JL_1 rfl (op_and (Ev.rfl' rfl) rfl (fun h => by exact SubL.iteT (by (rw [h]; rfl)) SubL.rfl')) ?_
  refine JL_1 rfl (op_assign rfl) (JL_nil ?_)
  refine JQ_then (JC_ret ?_)
  refine JQ_ret1 Tryz.results20 rfl () (SubL.eq ?_) (List.nil_sublist _)
  rfl
theorem count_yes {l : Int} (h : 104 ≤ l ∧ l ≤ 256) : countV l = IntKind.i64.wrap ((l - 104).tdiv 16) := by
  unfold countV
  rw [if_pos h, Int.tdiv_eq_ediv_of_nonneg (by omega), wI64 (by omega)]
-- segment.Count: function 27
theorem Count_ok (l : Int) : FnP Tryz.prog 27 [Is (.int .i64 l)] (Is (.int .i64 (countV l))) := by
  refine FnP.enter Tryz.func27 Tryz.ntmps27 rfl rfl ?_
  intro c hX
  refine JC_seq (JC_region (JL_1 rfl (op_assign rfl) (JL_nil ?_)))
  refine JQ_then (JC_seq (JC_seq ?_))
  refine JC_region (JL_1 rfl (op_move rfl) (JL_1 rfl (op_call Tryz.call24 (isSize_ok _) ⟨evS, trivial⟩) ?_))
  refine JL_1 rfl (op_not (Ev.rfl' rfl)) (JL_nil (JQ_then ?_))
  refine JC_cond (Ev.rfl' rfl) (fun h1 => ?_) (fun h1 => ?_)
  · have h : ¬ (104 ≤ l ∧ l ≤ 256) := size_not.1 (by simpa using h1)
    refine JC_seq (JC_region (JL_1 rfl (op_assign rfl) (JL_nil ?_)))
    refine JQ_then (JC_ret (JQ_then_ret ?_))
    refine JQ_ret1 Tryz.results27 rfl () (SubL.eq ?_) (List.nil_sublist _)
    unfold countV; rw [if_neg h]
  have h : 104 ≤ l ∧ l ≤ 256 := size_iff.1 (by simpa using h1)
  refine JC_skip (JQ_then (JC_seq ?_))
  refine JC_region (JL_1 rfl (op_move rfl) (JL_1 rfl (op_sub (Ev.rfl' rfl) (Ev.rfl' rfl) wrapT) ?_))
  refine JL_1 rfl (op_quo (Ev.rfl' rfl) (Ev.rfl' rfl) (by omega) rfl) ?_
  refine JL_1 rfl (op_assign rfl) (JL_nil ?_)
  refine JQ_then (JC_ret ?_)
  refine JQ_ret1 Tryz.results27 rfl () (SubL.eq ?_) (List.nil_sublist _)
  rw [count_yes h]
-- segment.HeaderLine: function 32
theorem HeaderLine_ok (s : Int) : FnP Tryz.prog 32 [Is (.int .i64 s)] (Is (.int .i64 (lineV s))) := by
  refine FnP.enter Tryz.func32 Tryz.ntmps32 rfl rfl ?_
  intro c hX
  refine JC_seq (JC_region (JL_1 rfl (op_assign rfl) (JL_nil ?_)))
  refine JQ_then (JC_seq (JC_seq ?_))
  refine JC_region (JL_1 rfl (op_move rfl) (JL_1 rfl (op_lss (Ev.rfl' rfl) (Ev.rfl' rfl)) (JL_1 rfl (op_move rfl) ?_)))
  (refine JL_i0 rfl rfl rfl (fun hg => (by have hg0 := hg; (try simp at hg); exact op_moveE (Ev.rfl' rfl))) ?_)
  (refine JL_i0 rfl rfl rfl (fun hg => (by have hg0 := hg; (try simp at hg); exact op_geq evG evG)) ?_)
  refine JL_1 rfl (op_or (Ev.rfl' rfl) rfl (fun h => by exact SubL.iteT (by (rw [h]; rfl)) SubL.rfl')) ?_
  refine JL_nil (JQ_then ?_)
  refine JC_cond (Ev.rfl' rfl) (fun h1 => ?_) (fun h1 => ?_)
  · have h : ¬ (0 ≤ s ∧ s ≤ 8) := by simp at h1; omega
    refine JC_seq (JC_region (JL_1 rfl (op_assign rfl) (JL_nil ?_)))
    refine JQ_then (JC_ret (JQ_then_ret ?_))
    refine JQ_ret1 Tryz.results32 rfl () (SubL.eq ?_) (List.nil_sublist _)
    unfold lineV; rw [if_neg h]
  have h : 0 ≤ s ∧ s ≤ 8 := by simp at h1; omega
  refine JC_skip (JQ_then (JC_seq ?_))
  refine JC_region (JL_1 rfl (op_move rfl) (JL_1 rfl (op_mul (Ev.rfl' rfl) (Ev.rfl' rfl) wrapT) ?_))
  refine JL_1 rfl (op_add (Ev.rfl' rfl) (Ev.rfl' rfl) wrapT) ?_
  refine JL_1 rfl (op_assign rfl) (JL_nil ?_)
  refine JQ_then (JC_ret ?_)
  refine JQ_ret1 Tryz.results32 rfl () (SubL.eq ?_) (List.nil_sublist _)
  unfold lineV; rw [if_pos h, Int.mul_comm]
-- segment.Locate: function 97
theorem Locate_ok (lines line : Int) : FnP Tryz.prog 97 [Is (.int .i64 lines), Is (.int .i64 line)] (IsTup [Is (.int .i64 (locV lines line).1), Is (.int .i64 (locV lines line).2.1), Is (.bool (locV lines line).2.2)]) := by
  have hc := count_rng lines
  refine FnP.enter Tryz.func97 Tryz.ntmps97 rfl rfl ?_
  intro c hX
  refine JC_seq (JC_region (JL_1 rfl (op_assign rfl) (JL_1 rfl (op_assign rfl) (JL_1 rfl (op_assign rfl) (JL_nil ?_)))))
  refine JQ_then (JC_seq (JC_seq ?_))
  refine JC_region (JL_1 rfl (op_move rfl) (JL_1 rfl (op_lss (Ev.rfl' rfl) (Ev.rfl' rfl)) (JL_1 rfl (op_move rfl) ?_)))
  (refine JL_i0 rfl rfl rfl (fun hg => (by have hg0 := hg; (try simp at hg); exact op_moveE (Ev.rfl' rfl))) ?_)
  (refine JL_i0 rfl rfl rfl (fun hg => (by have hg0 := hg; (try simp at hg); exact op_moveE (Ev.rfl' rfl))) ?_)
  (refine JL_i0 rfl rfl rfl (fun hg => (by have hg0 := hg; (try simp at hg); exact op_call Tryz.call27 (Count_ok _) ⟨evS, trivial⟩)) ?_)
  (refine JL_i0 rfl rfl rfl (fun hg => (by have hg0 := hg; (try simp at hg); exact op_mul evG evG wrapT)) ?_)
  (refine JL_i0 rfl rfl rfl (fun hg => (by have hg0 := hg; (try simp at hg); exact op_add evG evG wrapT)) ?_)
  (refine JL_i0 rfl rfl rfl (fun hg => (by have hg0 := hg; (try simp at hg); exact op_geq evG evG)) ?_)
  refine JL_1 rfl (op_or (Ev.rfl' rfl) rfl (fun h => by exact SubL.iteT (by (rw [h]; rfl)) SubL.rfl')) ?_
  refine JL_nil (JQ_then ?_)
  refine JC_cond (Ev.rfl' rfl) (fun h1 => ?_) (fun h1 => ?_)
  · have h : locV lines line = (0, 0, false) := by
      unfold locV
      rw [if_neg]
      simp at h1
      omega
    rw [h]
    refine JC_seq (JC_region (JL_1 rfl (op_assign rfl) (JL_1 rfl (op_assign rfl) (JL_1 rfl (op_assign rfl) (JL_nil ?_)))))
    refine JQ_then (JC_ret (JQ_then_ret ?_))
    exact JQ_ret (Bs := [Is (.int .i64 0), Is (.int .i64 0), Is (.bool false)]) Tryz.results97 ⟨⟨_, rfl, subT⟩, ⟨⟨_, rfl, subT⟩, ⟨⟨_, rfl, subT⟩, trivial⟩⟩⟩ () SubL.rfl' (List.nil_sublist _)
  have h : 104 ≤ line ∧ line < 104 + 16 * countV lines := by simp at h1; omega
  have q1 : IntKind.i64.wrap ((line - 104).tdiv 16) = (line - 104) / 16 := by rw [Int.tdiv_eq_ediv_of_nonneg (by omega), wI64 (by omega)]
  have q2 : (line - 104).tmod 16 = (line - 104) % 16 := Int.tmod_eq_emod_of_nonneg (by omega)
  clear h1
  refine JC_skip (JQ_then (JC_seq ?_))
  refine JC_region (JL_1 rfl (op_move rfl) (JL_1 rfl (op_sub (Ev.rfl' rfl) (Ev.rfl' rfl) wrapT) ?_))
  refine JL_1 rfl (op_quo (Ev.rfl' rfl) (Ev.rfl' rfl) (by omega) rfl) ?_
  refine JL_1 rfl (op_move rfl) (JL_1 rfl (op_sub (Ev.rfl' rfl) (Ev.rfl' rfl) wrapT) ?_)
  refine JL_1 rfl (op_rem (Ev.rfl' rfl) (Ev.rfl' rfl) (by omega) rfl) ?_
  refine JL_1 rfl (op_assign rfl) (JL_1 rfl (op_assign rfl) (JL_nil ?_))
  refine JQ_then (JC_seq (JC_seq ?_))
  rw [q1, q2]
  refine JC_region (JL_1 rfl (op_move rfl) (JL_1 rfl (op_eql (Ev.rfl' rfl) (Ev.rfl' rfl)) (JL_nil (JQ_then ?_))))
  refine JC_cond (Ev.rfl' rfl) (fun h4 => ?_) (fun h4 => ?_)
  · have h5 : locV lines line = (0, 0, false) := by
      unfold locV
      rw [if_neg]
      have h6 : (line - 104) % 16 = 0 := by simpa using h4
      omega
    rw [h5]
    refine JC_seq (JC_region (JL_1 rfl (op_assign rfl) (JL_1 rfl (op_assign rfl) (JL_1 rfl (op_assign rfl) (JL_nil ?_)))))
    refine JQ_then (JC_ret (JQ_then_ret ?_))
    exact JQ_ret (Bs := [Is (.int .i64 0), Is (.int .i64 0), Is (.bool false)]) Tryz.results97 ⟨⟨_, rfl, subT⟩, ⟨⟨_, rfl, subT⟩, ⟨⟨_, rfl, subT⟩, trivial⟩⟩⟩ () SubL.rfl' (List.nil_sublist _)
  have h5 : locV lines line = ((line - 104) / 16, (line - 104) % 16, true) := by
    unfold locV
    rw [if_pos]
    have h6 : ¬ (line - 104) % 16 = 0 := by simpa using h4
    exact ⟨h.1, h.2, h6⟩
  rw [h5]
  refine JC_skip (JQ_then (JC_seq ?_))
  refine JC_region (JL_1 rfl (op_move rfl) (JL_1 rfl (op_move rfl) (JL_1 rfl (op_assign rfl) (JL_1 rfl (op_assign rfl) (JL_1 rfl (op_assign rfl) (JL_nil ?_))))))
  refine JQ_then (JC_ret ?_)
  exact JQ_ret (Bs := [Is (.int .i64 ((line - 104) / 16)), Is (.int .i64 ((line - 104) % 16)), Is (.bool true)]) Tryz.results97 ⟨⟨_, rfl, subT⟩, ⟨⟨_, rfl, subT⟩, ⟨⟨_, rfl, subT⟩, trivial⟩⟩⟩ () SubL.rfl' (List.nil_sublist _)
end Go.Proofs.YtfkmbdpnjcgimaaGreat

/- Rule: an array is built. Own work. -/
namespace Go.Proofs.YtfkmbdpnjcgimaaGreat
open Go.RowKit
set_option linter.unusedVariables false
set_option linter.unusedSimpArgs false
section
variable {P : Program} {c : Ctx} {A : Nat → Option VP} {L : List Item} {d : Option Tmp} {ty : TypeId} {pos : String} {af : Array Edge} {g : Option (Nat × Bool)}
theorem op_buildArr {t e : TypeId} {len size : Nat} {ps : Array (Nat × Operand)} {zs : List Value} {qs : List (Nat × List VP)} {Rs Rs' : List VP} (hu : P.underlying t = some (.array len e)) (hs : (P.info? e).map (·.size) = some size) (hz : (P.info? t).map (·.zero) = some (some (.agg zs.toArray))) (h1 : (zs.all Value.oneCell') = true)
    (hq : PartsE A L ps.toList qs) (hf : fillL (fun i => some (i * size, size)) (zs.map Is) qs = some Rs) (hR : Rs = Rs') : OpP P c ⟨d, .build t ps, ty, pos, af, g⟩ A L (IsAgg Rs') := by
  subst hR
  exact opp fun φ a w hm he => by
    have hp := hq.at_ (φ := φ) (a := a) fun i x hx => he x (by simp only [Op.operands]; simp; exact ⟨i, by simpa using hx⟩)
    obtain ⟨rs, g1, g2⟩ := fill_ok (alls_is (φ := φ) zs) (ones_all h1) hp hf
    refine ⟨.agg rs.toArray, ?_, ⟨rs, rfl, g2⟩⟩
    simp only [execOp]
    refine run_val ?_
    have h3 : (ps.map fun x => (x.1, a.eval x.2)).toList = ps.toList.map fun p => (p.1, a.eval p.2) := by simp
    simp only [Instr.build, Sem.run_bind, run_zero hz, Result.andThen_ok, run_underlying hu, run_sizeOf hs]
    rw [h3]
    show (match Instr.fill (fun i => some (i * size, size)) zs.toArray (ps.toList.map fun p => (p.1, a.eval p.2)) with | some cells => pure (.agg cells) | _ => stuck _ : Sem Value).run P w = _
    rw [g1]; rfl
end
end Go.Proofs.YtfkmbdpnjcgimaaGreat

/- Contracts: header pages read and written, by the program and by the reference. Own work. -/
namespace Go.Proofs.YtfkmbdpnjcgimaaGreat
open Go.RowKit
set_option linter.unusedVariables false
set_option linter.unusedSimpArgs false
set_option maxRecDepth 100000
/-- A part from a place on of an array that stays. -/
theorem op_sliceRefL {P : Program} {c : Ctx} {A : Nat → Option VP} {L : List Item} {d : Option Tmp} {ty : TypeId} {pos : String} {af : Array Edge} {g : Option (Nat × Bool)} {α : Type} {T : Ty α} (xs : List α) {x y : Operand} {t e : TypeId} {n l : Nat} {k1 : IntKind} {i1 : Int} {As : List VP} (hx : Ev A L x (IsRef As)) (hu : P.underlying t = some (.array n e)) (hs : (P.info? e).map (·.size) = some T.size) (hy : Ev A L y (Is (.int k1 i1)))
    (e1 : i1 = l) (h1 : l ≤ n) (hn : xs.length = n) (hm : Nat.ble n maxLen = true) (h : SubLs L (As.take (n * T.size)) (xs.flatMap T.cells)) :
    OpP P c ⟨d, .slice t x (some y) none none, ty, pos, af, g⟩ A L (IsSl T (xs.drop l)) := by
  intro φ a w K Q hh he hk
  obtain ⟨b, o, f1, f2⟩ : (IsRef As).ok φ (a.eval x) := he x (by simp [Op.operands]) _ hx
  have g1 : a.eval y = .int k1 i1 := he y (by simp [Op.operands]) _ hy
  have hat : SlAt T φ (some ⟨b, o, none⟩) n n xs := by
    refine ⟨hn.symm, Nat.le_refl _, Nat.le_of_ble_eq_true hm, .inr ⟨b, o, rfl, fun k z hj j B hB => ?_⟩⟩
    obtain ⟨D, h3, h4⟩ := subLs_get (Bs := []) h (flat_idx hj hB)
    have h5 : As[k * T.size + j]? = some D := by
      rw [List.getElem?_take] at h3
      split at h3
      · exact h3
      · cases h3
    obtain ⟨v, h6, h7, h8⟩ := f2 _ D h5
    exact ⟨v, by rw [Nat.add_assoc]; exact h6, h4 φ v hh.mem.facts h7, h8⟩
  have hrun : (execOp a.eval ⟨d, .slice t x (some y) none none, ty, pos, af, g⟩).run P w = .ok (.value (.slice (if n = l then some ⟨b, o, none⟩ else (some ⟨b, o, none⟩ : Option Addr).map (·.add (l * T.size))) (n - l) (n - l))) w := by
    simp only [execOp, f1]
    refine run_val ?_
    simp only [Instr.sliceAt, Sem.run_bind, run_underlying hu, Result.andThen_ok, Instr.sureAddr, Sem.run_pure, Option.map_none, Option.map_some, Instr.sliceBounds, g1, run_bound (P := P) (y := k1) (k := k1) e1 h1, run_sizeOf hs]
    by_cases hc : n = l <;> simp [hc]
  unfold Oper.wp
  rw [hrun]
  have hcut := hat.cut h1 (Nat.le_refl n)
  rw [List.take_of_length_le (by omega)] at hcut
  exact hk φ _ w hh.idle ⟨_, _, _, rfl, hcut⟩
theorem andNot_u32 (a b : BitVec 32) : Op.intBits .andNot .u32 (UV a) (UV b) = pure (.int .u32 (UV (a &&& ~~~b))) := by
  rw [intBits_andNot]; congr 2
  show IntKind.u32.wrap ((BitVec.ofInt 32 (UV a) &&& ~~~ BitVec.ofInt 32 (UV b)).toNat : Int) = _
  rw [ofInt_UV, ofInt_UV, wrap_UV32]; rfl
theorem hdr_val (l : Int) (h : 104 ≤ l ∧ l < 248) : hdrB l = ((l - 104).tmod 16 == 0) := by
  unfold hdrB
  rw [Int.tmod_eq_emod_of_nonneg (by omega), Bool.eq_iff_iff]
  simp
  omega
-- segment.isHeaderLine: function 50
theorem isHeaderLine_ok (l : Int) : FnP Tryz.prog 50 [Is (.int .i64 l)] (Is (.bool (hdrB l))) := by
  refine FnP.enter Tryz.func50 Tryz.ntmps50 rfl rfl ?_
  intro c hX
  refine JC_seq (JC_region (JL_1 rfl (op_assign rfl) (JL_nil ?_)))
  refine JQ_then (JC_seq ?_)
  refine JC_region (JL_1 rfl (op_move rfl) (JL_1 rfl (op_geq (Ev.rfl' rfl) (Ev.rfl' rfl)) (JL_1 rfl (op_move rfl) ?_)))
  (refine JL_i0 rfl rfl rfl (fun hg => (by have hg0 := hg; (try simp at hg); exact op_moveE (Ev.rfl' rfl))) ?_)
  (refine JL_i0 rfl rfl rfl (fun hg => (by have hg0 := hg; (try simp at hg); exact op_lss evG evG)) ?_)
  refine JL_1 rfl (op_and (Ev.rfl' rfl) rfl (fun h => by exact SubL.iteT (by (rw [h]; rfl)) SubL.rfl')) ?_
  refine JL_1 rfl (op_move rfl) ?_
  (refine JL_i0 rfl rfl rfl (fun hg => (by have hg0 := hg; (try simp at hg); exact op_moveE (Ev.rfl' rfl))) ?_)
  (refine JL_i0 rfl rfl rfl (fun hg => (by have hg0 := hg; (try simp at hg); exact op_sub evG evG wrapT)) ?_)
  (refine JL_i0 rfl rfl rfl (fun hg => (by have hg0 := hg; (try simp at hg); exact op_rem evG evG (by omega) rfl)) ?_)
  (refine JL_i0 rfl rfl rfl (fun hg => (by have hg0 := hg; (try simp at hg); exact op_eql evG evG)) ?_)
  refine JL_1 rfl (op_and (Ev.rfl' rfl) rfl (fun h => by exact SubL.iteT (by (rw [h]; rfl)) SubL.rfl')) ?_
  refine JL_1 rfl (op_assign rfl) (JL_nil ?_)
  refine JQ_then (JC_ret ?_)
  refine JQ_ret1 Tryz.results50 rfl () (SubL.eq ?_) (List.nil_sublist _)
  congr 2
  by_cases h : 104 ≤ l ∧ l < 248
  · rw [hdr_val l h, decide_eq_true (by omega : l ≥ 104), decide_eq_true (by omega : l < 248)]; simp
  · have e : hdrB l = false := by unfold hdrB; rw [decide_eq_false]; omega
    rw [e]
    by_cases h1 : l ≥ 104
    · rw [decide_eq_false (by omega : ¬ l < 248)]; simp
    · rw [decide_eq_false h1]; simp
def idxU : List (BitVec 64) → Nat → Int
  | [], _ => -1
  | x :: xs, k => if x = 0#64 then idxU xs (k + 1) else (k : Int)
theorem idxU_any : ∀ (xs : List (BitVec 64)) (k : Nat), decide (idxU xs k ≥ 0) = xs.any fun x => decide (x ≠ 0#64)
  | [], k => rfl
  | x :: xs, k => by
    unfold idxU
    by_cases h : x = 0#64
    · rw [if_pos h, idxU_any xs]; simp [h]
    · rw [if_neg h]
      simp [h]
-- segment.zeros$1: function 93
theorem zeros1_ok (x : BitVec 64) : FnP Tryz.prog 93 [Is (.int .u64 (UV x))] (Is (.bool (decide (x ≠ 0#64)))) := by
  refine FnP.enter Tryz.func93 Tryz.ntmps93 rfl rfl ?_
  intro c hX
  refine JC_seq (JC_region (JL_1 rfl (op_assign rfl) (JL_nil ?_)))
  refine JQ_then (JC_seq ?_)
  refine JC_region (JL_1 rfl (op_move rfl) (JL_1 rfl (op_neq (Ev.rfl' rfl) (Ev.rfl' rfl)) (JL_1 rfl (op_assign rfl) (JL_nil ?_))))
  refine JQ_then (JC_ret ?_)
  refine JQ_ret1 Tryz.results93 rfl () (SubL.eq ?_) (List.nil_sublist _)
  congr 2
  rw [show (0 : Int) = UV 0#64 from rfl, Bool.eq_iff_iff]
  simp [UV_inj]
-- slices.IndexFunc[[]uint64,uint64]: function 114
theorem IndexU_ok (xs : List (BitVec 64)) : FnP Tryz.prog 114 [IsSl tU64 xs, Is (.func (.func 93) #[] #[])] (Is (.int .i64 (idxU xs 0))) := by
  refine FnP.enter Tryz.func114 Tryz.ntmps114 rfl rfl ?_
  intro c hX
  refine JC_len (t := 0) rfl (fun hlen => ?_)
  refine JC_seq (JC_region (JL_1 rfl (op_assign rfl) (JL_nil ?_)))
  refine JQ_then (JC_seq (JC_seq ?_))
  refine JC_region (JL_1 rfl (op_move rfl) (JL_1 rfl (by exact op_len (Ev.rfl' rfl) rfl) ?_))
  refine JL_1 rfl (op_move rfl) (JL_nil ?_)
  refine JQ_then (JC_block ?_)
  refine JC_loopP (fun k : Nat => k ≤ xs.length ∧ idxU xs 0 = idxU (xs.drop k) k) (fun k => [(0, IsSl tU64 xs), (1, Is (.func (.func 93) #[] #[])), (7, Is (.int .i64 xs.length)), (8, Is (.int .i64 (k : Nat)))]) (fun _ => []) (fun k => xs.length - k) 0 ⟨Nat.zero_le _, rfl⟩ esubT lessT ?_
  rintro k ⟨hk, hs⟩
  refine JC_seq (JC_region (JL_1 rfl (op_lss (Ev.rfl' rfl) (Ev.rfl' rfl)) (JL_nil ?_)))
  refine JQ_then (JC_seq ?_)
  refine JC_cond (Ev.rfl' rfl) (fun h2 => ?_) (fun h2 => ?_)
  · have hlt : k < xs.length := by have := of_decide_eq_true h2; omega
    clear h2
    obtain ⟨z, hz⟩ : ∃ z, xs[k]? = some z := ⟨xs[k], List.getElem?_eq_getElem hlt⟩
    have hd : xs.drop k = z :: xs.drop (k + 1) := by
      rw [List.drop_eq_getElem_cons hlt]
      congr 1
      rw [List.getElem?_eq_getElem hlt] at hz
      exact Option.some.inj hz
    have e2 : idxU (z :: xs.drop (k + 1)) k = if z = 0#64 then idxU (xs.drop (k + 1)) (k + 1) else (k : Int) := rfl
    rw [hd, e2] at hs
    refine JC_skip (JQ_then (JC_seq (JC_block (JC_seq ?_))))
    refine JC_region (JL_1 rfl (op_move rfl) (JL_1 rfl (op_assign rfl) (JL_nil ?_)))
    refine JQ_then (JC_seq ?_)
    refine JC_region (JL_1 rfl (op_move rfl) (JL_1 rfl (op_move rfl) (JL_1 rfl (op_move rfl) (JL_1 rfl (by exact op_index (j := _) (Ev.rfl' rfl) (Ev.rfl' rfl) rfl rfl (by rfl) hz) ?_))))
    refine JL_1 rfl (by exact op_loadRef (Ev.rfl' rfl) rfl rfl rfl) ?_
    refine JL_1 rfl (op_callV0 (Ev.rfl' rfl) Tryz.call93 (zeros1_ok _) ⟨evS, trivial⟩) ?_
    refine JL_nil (JQ_then ?_)
    refine JC_cond (Ev.rfl' rfl) (fun h4 => ?_) (fun h4 => ?_)
    · have h5 : ¬ z = 0#64 := of_decide_eq_true h4
      rw [if_neg h5] at hs
      refine JC_seq (JC_region (JL_1 rfl (op_move rfl) (JL_1 rfl (op_assign rfl) (JL_nil ?_))))
      refine JQ_then (JC_ret (JQ_block_ret (JQ_then_ret (JQ_then_ret (JQ_block_ret (JQ_then_ret ?_))))))
      refine JQ_ret1 Tryz.results114 rfl () (SubL.eq ?_) (List.nil_sublist _)
      rw [hs]
    have h5 : z = 0#64 := Classical.not_not.1 (of_decide_eq_false h4)
    rw [if_pos h5] at hs
    refine JC_skip (JQ_block (JQ_then ?_))
    refine JC_region (JL_1 rfl (op_add (Ev.rfl' rfl) (Ev.rfl' rfl) wrapT) ?_)
    refine JL_1 rfl (op_move rfl) (JL_nil ?_)
    exact JQ_roundP (k + 1) ⟨by omega, hs⟩ (by omega) esubT lessT
  have hge : k = xs.length := by have := of_decide_eq_false h2; omega
  subst hge
  rw [List.drop_length] at hs
  refine JC_exit (JQ_then_exit (JQ_then_exit (JQ_hit (JQ_then (JC_seq ?_)))))
  refine JC_region (JL_1 rfl (op_assign rfl) (JL_nil ?_))
  refine JQ_then (JC_ret ?_)
  refine JQ_ret1 Tryz.results114 rfl () (SubL.eq ?_) (List.nil_sublist _)
  rw [hs]; rfl
-- slices.ContainsFunc[[]uint64,uint64]: function 92
theorem ContainsU_ok (xs : List (BitVec 64)) : FnP Tryz.prog 92 [IsSl tU64 xs, Is (.func (.func 93) #[] #[])] (Is (.bool (xs.any fun x => decide (x ≠ 0#64)))) := by
  refine FnP.enter Tryz.func92 Tryz.ntmps92 rfl rfl ?_
  intro c hX
  refine JC_seq (JC_region (JL_1 rfl (op_assign rfl) (JL_nil ?_)))
  refine JQ_then (JC_seq ?_)
  refine JC_region (JL_1 rfl (op_move rfl) (JL_1 rfl (op_move rfl) (JL_1 rfl (op_call Tryz.call114 (IndexU_ok _) ⟨evS, ⟨evS, trivial⟩⟩) ?_)))
  refine JL_1 rfl (op_geq (Ev.rfl' rfl) (Ev.rfl' rfl)) (JL_1 rfl (op_assign rfl) (JL_nil ?_))
  refine JQ_then (JC_ret ?_)
  refine JQ_ret1 Tryz.results92 rfl () (SubL.eq ?_) (List.nil_sublist _)
  rw [idxU_any]
-- segment.zeros: function 67
theorem zeros_ok (xs : List (BitVec 64)) : FnP Tryz.prog 67 [IsSl tU64 xs] (Is (.bool (!xs.any fun x => decide (x ≠ 0#64)))) := by
  refine FnP.enter Tryz.func67 Tryz.ntmps67 rfl rfl ?_
  intro c hX
  refine JC_seq (JC_region (JL_1 rfl (op_assign rfl) (JL_nil ?_)))
  refine JQ_then (JC_seq ?_)
  refine JC_region (JL_1 rfl (op_move rfl) (JL_1 rfl (op_call Tryz.call92 (ContainsU_ok _) ⟨evS, ⟨evS, trivial⟩⟩) ?_))
  refine JL_1 rfl (op_not (Ev.rfl' rfl)) (JL_1 rfl (op_assign rfl) (JL_nil ?_))
  refine JQ_then (JC_ret ?_)
  refine JQ_ret1 Tryz.results67 rfl () (SubL.eq ?_) (List.nil_sublist _)
  rfl
def dat (p : Pg) : List (BitVec 64) := [p.d0, p.d1, p.d2, p.d3, p.d4, p.d5, p.d6]
/-- The words behind the second are zero. -/
def zB (p : Pg) : Bool := decide (p.d2 = 0#64) && (decide (p.d3 = 0#64) && (decide (p.d4 = 0#64) && (decide (p.d5 = 0#64) && decide (p.d6 = 0#64))))
def useB (p : Pg) : Bool := decide (UV p.d0 > 6) || UV (p.d1 &&& ~~~BitVec.ofInt 64 65534) != 0
def readH (p : Pg) : Hd × Int := if hdrB p.l = true then (if (useB p || !zB p) = true then (Hd.nil, 14) else (⟨UV p.d0 - 1, p.d1.setWidth 32⟩, 0)) else (Hd.nil, 1)
theorem zB_any (p : Pg) : (!((dat p).drop 2).any fun x => decide (x ≠ 0#64)) = zB p := by
  unfold zB dat
  simp only [List.drop_succ_cons, List.drop_zero, List.any_cons, List.any_nil, decide_not]
  simp only [Bool.or_false, Bool.not_or, Bool.not_not]
theorem use_rng {p : Pg} (h : useB p = false) : UV p.d0 ≤ 6 := by
  unfold useB at h
  simp at h
  exact h.1
-- segment.ReadHeader: function 48
set_option maxHeartbeats 1000000 in
theorem ReadHeader_ok (p : Pg) : FnP Tryz.prog 48 [IsPg p] (IsTup [IsHd (readH p).1, Is (.int .i64 (readH p).2)]) := by
  have h0 := UV_nonneg p.d0
  have hd0 : (dat p)[0]? = some p.d0 := rfl
  have hd1 : (dat p)[1]? = some p.d1 := rfl
  refine FnP.enter Tryz.func48 Tryz.ntmps48 rfl rfl ?_
  intro c hX
  refine JC_seq (JC_region ?_)
  (refine JL_n rfl (op_box (Ev.rfl' rfl) cellsT) ?_; intro i1)
  (refine JL_n rfl (op_allocN rfl nrmT rfl) ?_; intro i2)
  refine JL_1 rfl (op_assign rfl) (JL_nil ?_)
  refine JQ_then (JC_seq (JC_seq ?_))
  refine JC_freezeB hX (b := i1) replT ?_
  refine JC_set 1 (IsRef (tPg.cells p)) rfl (SubL.fact memT) ?_
  refine JC_region (JL_1 rfl (by exact op_fieldRefN (k := 0) (Ev.rfl' rfl) rfl rfl rfl rfl nrmT) ?_)
  refine JL_1 rfl (by exact op_loadRef (Ev.rfl' rfl) rfl rfl rfl) ?_
  refine JL_1 rfl (op_call Tryz.call50 (isHeaderLine_ok _) ⟨evS, trivial⟩) ?_
  refine JL_1 rfl (op_not (Ev.rfl' rfl)) (JL_nil (JQ_then ?_))
  refine JC_cond (Ev.rfl' rfl) (fun h1 => ?_) (fun h1 => ?_)
  · have e : readH p = (Hd.nil, 1) := by unfold readH; rw [if_neg (by simpa using h1)]
    rw [e]
    refine JC_seq (JC_region (JL_1 rfl (op_buildN (qs := []) rfl rfl rfl rfl trivial (by rfl) nrmT) ?_))
    refine JL_s0 (op_storeN (Ev.rfl' rfl) (Ev.rfl' rfl) cellsT replT nrmT (by rfl) (by rfl) (by rfl)) ?_
    refine JL_1 rfl (op_assign rfl) (JL_nil ?_)
    refine JQ_then (JC_ret (JQ_then_ret ?_))
    exact JQ_ret (Bs := [IsHd Hd.nil, Is (.int .i64 1)]) Tryz.results48 ⟨⟨_, _, _, _, rfl, memT, rfl, .inr ⟨rfl, _, rfl, rfl, subT⟩⟩, ⟨⟨_, rfl, subT⟩, trivial⟩⟩ () SubL.rfl' (List.nil_sublist _)
  have hl : hdrB p.l = true := by simpa using h1
  refine JC_skip (JQ_then (JC_seq (JC_seq ?_)))
  refine JC_region (JL_1 rfl (by exact op_fieldRefN (k := 2) (Ev.rfl' rfl) rfl rfl rfl rfl nrmT) ?_)
  refine JL_1 rfl (by exact op_indexRef (j := 0) (T := tU64) (dat p) (Ev.rfl' rfl) (Ev.rfl' rfl) rfl rfl (by rfl) subsT (by rfl) hd0) ?_
  refine JL_1 rfl (by exact op_loadRef (Ev.rfl' rfl) rfl rfl rfl) ?_
  refine JL_1 rfl (op_gtr (Ev.rfl' rfl) (Ev.rfl' rfl)) (JL_1 rfl (op_move rfl) ?_)
  (refine JL_i0 rfl rfl rfl (fun hg => (by have hg0 := hg; (try simp at hg); exact op_fieldRefN (k := 2) evG rfl rfl rfl rfl nrmT)) ?_)
  (refine JL_i0 rfl rfl rfl (fun hg => (by have hg0 := hg; (try simp at hg); exact op_indexRef (j := 1) (T := tU64) (dat p) evG evG rfl rfl (by rfl) subsT (by rfl) hd1)) ?_)
  (refine JL_i0 rfl rfl rfl (fun hg => (by have hg0 := hg; (try simp at hg); exact op_loadRef evG rfl rfl rfl)) ?_)
  (refine JL_i0 rfl rfl rfl (fun hg => (by have hg0 := hg; (try simp at hg); exact op_bits ev64g ev64g (by simp) (andNot_u64 _ _))) ?_)
  (refine JL_i0 rfl rfl rfl (fun hg => (by have hg0 := hg; (try simp at hg); exact op_neq evG evG)) ?_)
  refine JL_1 rfl (op_or (Ev.rfl' rfl) rfl (fun h => by exact SubL.iteT (by (rw [h]; rfl)) SubL.rfl')) ?_
  refine JL_1 rfl (op_move rfl) ?_
  (refine JL_i0 rfl rfl rfl (fun hg => (by have hg0 := hg; (try simp at hg); exact op_fieldRefN (k := 2) evG rfl rfl rfl rfl nrmT)) ?_)
  (refine JL_i0 rfl rfl rfl (fun hg => (by have hg0 := hg; (try simp at hg); exact op_sliceRefL (T := tU64) (dat p) (l := 2) evG rfl rfl (Ev.rfl' rfl) rfl (by omega) rfl (by rfl) subzT)) ?_)
  (refine JL_i0 rfl rfl rfl (fun hg => (by have hg0 := hg; (try simp at hg); exact op_call Tryz.call67 (zeros_ok _) ⟨evS, trivial⟩)) ?_)
  (refine JL_i0 rfl rfl rfl (fun hg => (by have hg0 := hg; (try simp at hg); exact op_not evG)) ?_)
  refine JL_1 rfl (op_or (Ev.rfl' rfl) rfl (fun h => by exact SubL.iteT (by (rw [h]; rfl)) SubL.rfl')) ?_
  refine JL_nil (JQ_then ?_)
  refine JC_cond (Ev.rfl' rfl) (fun h3 => ?_) (fun h3 => ?_)
  · have e : readH p = (Hd.nil, 14) := by
      unfold readH
      rw [if_pos hl, if_pos]
      rw [← zB_any]
      exact h3
    rw [e]
    refine JC_seq (JC_region (JL_1 rfl (op_buildN (qs := []) rfl rfl rfl rfl trivial (by rfl) nrmT) ?_))
    refine JL_s0 (op_storeN (Ev.rfl' rfl) (Ev.rfl' rfl) cellsT replT nrmT (by rfl) (by rfl) (by rfl)) ?_
    refine JL_1 rfl (op_assign rfl) (JL_nil ?_)
    refine JQ_then (JC_ret (JQ_then_ret ?_))
    exact JQ_ret (Bs := [IsHd Hd.nil, Is (.int .i64 14)]) Tryz.results48 ⟨⟨_, _, _, _, rfl, memT, rfl, .inr ⟨rfl, _, rfl, rfl, subT⟩⟩, ⟨⟨_, rfl, subT⟩, trivial⟩⟩ () SubL.rfl' (List.nil_sublist _)
  have h4 : (useB p || !zB p) = false := by rw [← zB_any]; exact h3
  have e : readH p = (⟨UV p.d0 - 1, p.d1.setWidth 32⟩, 0) := by
    unfold readH
    rw [if_pos hl, if_neg (by rw [h4]; simp)]
  have hr := use_rng (p := p) (by revert h4; cases useB p <;> simp)
  rw [e]
  clear h3
  refine JC_skip (JQ_then (JC_seq ?_))
  refine JC_region (JL_1 rfl (by exact op_fieldRefN (k := 2) (Ev.rfl' rfl) rfl rfl rfl rfl nrmT) ?_)
  refine JL_1 rfl (by exact op_indexRef (j := 0) (T := tU64) (dat p) (Ev.rfl' rfl) (Ev.rfl' rfl) rfl rfl (by rfl) subsT (by rfl) hd0) ?_
  refine JL_1 rfl (by exact op_loadRef (Ev.rfl' rfl) rfl rfl rfl) ?_
  refine JL_1 rfl (op_conv (Ev.rfl' rfl) rfl rfl convT) ?_
  refine JL_1 rfl (op_sub (Ev.rfl' rfl) (Ev.rfl' rfl) wrapT) ?_
  refine JL_1 rfl (by exact op_fieldRefN (k := 2) (Ev.rfl' rfl) rfl rfl rfl rfl nrmT) ?_
  refine JL_1 rfl (by exact op_indexRef (j := 1) (T := tU64) (dat p) (Ev.rfl' rfl) (Ev.rfl' rfl) rfl rfl (by rfl) subsT (by rfl) hd1) ?_
  refine JL_1 rfl (by exact op_loadRef (Ev.rfl' rfl) rfl rfl rfl) ?_
  refine JL_1 rfl (op_conv (Ev.rfl' rfl) rfl rfl convT) ?_
  refine JL_1 rfl (op_buildN (qs := [(0, _), (1, _)]) rfl rfl rfl rfl ⟨⟨rfl, _, (Ev.rfl' rfl), cellsT⟩, ⟨⟨rfl, _, (Ev.rfl' rfl), cellsT⟩, trivial⟩⟩ (by rfl) nrmT) ?_
  refine JL_s0 (op_storeN (Ev.rfl' rfl) (Ev.rfl' rfl) cellsT replT nrmT (by rfl) (by rfl) (by rfl)) ?_
  refine JL_1 rfl (op_assign rfl) (JL_nil ?_)
  refine JQ_then (JC_ret ?_)
  exact JQ_ret (Bs := [IsHd ⟨UV p.d0 - 1, p.d1.setWidth 32⟩, Is (.int .i64 0)]) Tryz.results48 ⟨⟨_, _, _, _, rfl, memT, rfl, .inr ⟨rfl, _, rfl, rfl, subT⟩⟩, ⟨⟨_, rfl, subT⟩, trivial⟩⟩ () SubL.rfl' (List.nil_sublist _)
theorem uv0_iff {w : Nat} {x : BitVec w} : UV x = 0 ↔ x = 0#w := by
  constructor
  · intro h
    have : UV x = UV (0#w) := by rw [h]; simp [UV]
    rw [UV_inj] at this; exact this
  · rintro rfl; simp [UV]
def hdBad (p : Pg) (h : Hd) : Bool := (!hdrB p.l || decide (h.owner < -1)) || decide (h.owner ≥ 6) || UV (h.used &&& ~~~BitVec.ofInt 32 65534) != 0
def hdPut (p : Pg) (h : Hd) : Pg := { Pg.nil with l := p.l, h := p.h, d0 := BitVec.ofInt 64 (h.owner + 1), d1 := h.used.setWidth 64 }
def writeH (p : Pg) (h : Hd) : Pg × Int := if hdBad p h = true then (Pg.nil, 1) else (hdPut p h, 0)
theorem hd_rng {p : Pg} {h : Hd} (e : hdBad p h = false) : -1 ≤ h.owner ∧ h.owner < 6 := by
  unfold hdBad at e
  simp at e
  omega
-- segment.WriteHeader: function 34
set_option maxHeartbeats 1000000 in
theorem WriteHeader_ok (p : Pg) (h : Hd) : FnP Tryz.prog 34 [IsPg p, IsHd h] (IsTup [IsPg (writeH p h).1, Is (.int .i64 (writeH p h).2)]) := by
  refine FnP.enter Tryz.func34 Tryz.ntmps34 rfl rfl ?_
  intro c hX
  refine JC_seq (JC_region ?_)
  (refine JL_n rfl (op_box (Ev.rfl' rfl) cellsT) ?_; intro i2)
  (refine JL_n rfl (op_box (Ev.rfl' rfl) cellsT) ?_; intro i3)
  (refine JL_n rfl (op_allocN rfl nrmT rfl) ?_; intro i4)
  refine JL_1 rfl (op_assign rfl) (JL_nil ?_)
  refine JQ_then (JC_seq (JC_seq ?_))
  refine JC_region (JL_1 rfl (by exact op_fieldPtr (k := 0) (Ev.rfl' rfl) rfl rfl rfl rfl) ?_)
  refine JL_1 rfl (by exact op_loadPtr (Ev.rfl' rfl) memT (by rfl) (by rfl) (by rfl)) ?_
  refine JL_1 rfl (op_call Tryz.call50 (isHeaderLine_ok _) ⟨evS, trivial⟩) ?_
  refine JL_1 rfl (op_not (Ev.rfl' rfl)) (JL_1 rfl (op_move rfl) ?_)
  (refine JL_i0 rfl rfl rfl (fun hg => (by have hg0 := hg; (try simp at hg); exact op_fieldPtr (k := 0) evG rfl rfl rfl rfl)) ?_)
  (refine JL_i0 rfl rfl rfl (fun hg => (by have hg0 := hg; (try simp at hg); exact op_loadPtr evG memT (by rfl) (by rfl) (by rfl))) ?_)
  (refine JL_i0 rfl rfl rfl (fun hg => (by have hg0 := hg; (try simp at hg); exact op_lss evG evG)) ?_)
  refine JL_1 rfl (op_or (Ev.rfl' rfl) rfl (fun h => by exact SubL.iteT (by (rw [h]; rfl)) SubL.rfl')) ?_
  refine JL_1 rfl (op_move rfl) ?_
  (refine JL_i0 rfl rfl rfl (fun hg => (by have hg0 := hg; (try simp at hg); exact op_fieldPtr (k := 0) evG rfl rfl rfl rfl)) ?_)
  (refine JL_i0 rfl rfl rfl (fun hg => (by have hg0 := hg; (try simp at hg); exact op_loadPtr evG memT (by rfl) (by rfl) (by rfl))) ?_)
  (refine JL_i0 rfl rfl rfl (fun hg => (by have hg0 := hg; (try simp at hg); exact op_geq evG evG)) ?_)
  refine JL_1 rfl (op_or (Ev.rfl' rfl) rfl (fun h => by exact SubL.iteT (by (rw [h]; rfl)) SubL.rfl')) ?_
  refine JL_1 rfl (op_move rfl) ?_
  (refine JL_i0 rfl rfl rfl (fun hg => (by have hg0 := hg; (try simp at hg); exact op_fieldPtr (k := 1) evG rfl rfl rfl rfl)) ?_)
  (refine JL_i0 rfl rfl rfl (fun hg => (by have hg0 := hg; (try simp at hg); exact op_loadPtr evG memT (by rfl) (by rfl) (by rfl))) ?_)
  (refine JL_i0 rfl rfl rfl (fun hg => (by have hg0 := hg; (try simp at hg); exact op_bits ev32g ev32g (by simp) (andNot_u32 _ _))) ?_)
  (refine JL_i0 rfl rfl rfl (fun hg => (by have hg0 := hg; (try simp at hg); exact op_neq evG evG)) ?_)
  refine JL_1 rfl (op_or (Ev.rfl' rfl) rfl (fun h => by exact SubL.iteT (by (rw [h]; rfl)) SubL.rfl')) ?_
  refine JL_nil (JQ_then ?_)
  refine JC_cond (Ev.rfl' rfl) (fun h1 => ?_) (fun h1 => ?_)
  · have e : writeH p h = (Pg.nil, 1) := by unfold writeH; rw [if_pos]; exact h1
    rw [e]
    refine JC_seq (JC_region (JL_1 rfl (op_buildN (qs := []) rfl rfl rfl rfl trivial (by rfl) nrmT) ?_))
    refine JL_s0 (op_storeN (Ev.rfl' rfl) (Ev.rfl' rfl) cellsT replT nrmT (by rfl) (by rfl) (by rfl)) ?_
    refine JL_1 rfl (op_assign rfl) (JL_nil ?_)
    refine JQ_then (JC_ret (JQ_then_ret ?_))
    exact JQ_ret (Bs := [IsPg Pg.nil, Is (.int .i64 1)]) Tryz.results34 ⟨⟨_, _, _, _, rfl, memT, rfl, .inr ⟨rfl, _, rfl, rfl, subT⟩⟩, ⟨⟨_, rfl, subT⟩, trivial⟩⟩ () SubL.rfl' (List.nil_sublist _)
  have h2 : hdBad p h = false := h1
  have hr := hd_rng h2
  have e : writeH p h = (hdPut p h, 0) := by unfold writeH; rw [if_neg (by rw [h2]; simp)]
  rw [e]
  clear h1
  refine JC_skip (JQ_then (JC_seq ?_))
  refine JC_region (JL_1 rfl (by exact op_fieldPtr (k := 0) (Ev.rfl' rfl) rfl rfl rfl rfl) ?_)
  refine JL_1 rfl (by exact op_loadPtr (Ev.rfl' rfl) memT (by rfl) (by rfl) (by rfl)) ?_
  refine JL_1 rfl (op_add (Ev.rfl' rfl) (Ev.rfl' rfl) wrapT) ?_
  refine JL_1 rfl (op_conv (Ev.rfl' rfl) rfl rfl convT) ?_
  refine JL_set 30 (Is (.int .u64 (UV (BitVec.ofInt 64 (h.owner + 1))))) rfl (SubL.eq (congrArg Is (u64lit (by omega)))) ?_
  refine JL_1 rfl (by exact op_fieldPtr (k := 1) (Ev.rfl' rfl) rfl rfl rfl rfl) ?_
  refine JL_1 rfl (by exact op_loadPtr (Ev.rfl' rfl) memT (by rfl) (by rfl) (by rfl)) ?_
  refine JL_1 rfl (op_conv (Ev.rfl' rfl) rfl rfl convT) ?_
  refine JL_1 rfl (op_buildArr (size := 1) (qs := [(0, _), (1, _)]) rfl rfl rfl rfl ⟨⟨rfl, _, (Ev.rfl' rfl), cellsT⟩, ⟨⟨rfl, _, (Ev.rfl' rfl), cellsT⟩, trivial⟩⟩ (by rfl) nrmT) ?_
  refine JL_1 rfl (by exact op_fieldPtr (k := 2) (Ev.rfl' rfl) rfl rfl rfl rfl) ?_
  refine JL_s0 (op_storeN (Ev.rfl' rfl) (Ev.rfl' rfl) cellsT replT nrmT (by rfl) (by rfl) (by rfl)) ?_
  refine JL_nil ?_
  refine JQ_then (JC_seq ?_)
  refine JC_region (JL_1 rfl (by exact op_loadPtrsN (n := 9) (Ev.rfl' rfl) memT (by rfl) (by rfl) (by rfl) (by rfl) nrmT) ?_)
  refine JL_s0 (op_storeN (Ev.rfl' rfl) (Ev.rfl' rfl) cellsT replT nrmT (by rfl) (by rfl) (by rfl)) ?_
  refine JL_1 rfl (op_assign rfl) (JL_nil ?_)
  refine JQ_then (JC_ret ?_)
  exact JQ_ret (Bs := [IsPg (hdPut p h), Is (.int .i64 0)]) Tryz.results34 ⟨⟨_, _, _, _, rfl, memT, rfl, .inr ⟨rfl, _, rfl, rfl, subT⟩⟩, ⟨⟨_, rfl, subT⟩, trivial⟩⟩ () SubL.rfl' (List.nil_sublist _)
end Go.Proofs.YtfkmbdpnjcgimaaGreat

/- Two halves of a word. Own work. -/
namespace Go.Proofs.YtfkmbdpnjcgimaaGreat
open Go.RowKit
set_option linter.unusedVariables false
set_option linter.unusedSimpArgs false
@[reducible] def packW (x : BitVec 32) (y : BitVec 64) : BitVec 64 := x.setWidth 64 ||| y <<< 32
theorem pack_low (x : BitVec 32) (y : BitVec 64) : (packW x y).setWidth 32 = x := by
  apply BitVec.eq_of_getLsbD_eq
  intro i hi
  simp only [packW, BitVec.getLsbD_setWidth, BitVec.getLsbD_or, BitVec.getLsbD_shiftLeft]
  simp [hi, show i < 64 by omega]
theorem pack_high (x z : BitVec 32) : packW x (z.setWidth 64) >>> 32 = z.setWidth 64 := by
  apply BitVec.eq_of_getLsbD_eq
  intro i hi
  simp only [packW, BitVec.getLsbD_ushiftRight, BitVec.getLsbD_setWidth, BitVec.getLsbD_or, BitVec.getLsbD_shiftLeft]
  rw [BitVec.getLsbD_of_ge x (32 + i) (by omega)]
  rcases Nat.lt_or_ge i 32 with h | h
  · simp [hi, h, show 32 + i < 64 by omega, show 32 + i - 32 = i by omega]
  · rw [BitVec.getLsbD_of_ge z i h]; simp; omega
theorem setW_setW (z : BitVec 32) : (z.setWidth 64).setWidth 32 = z := by
  apply BitVec.eq_of_toNat_eq
  simp only [BitVec.toNat_setWidth]
  have := z.isLt
  omega
end Go.Proofs.YtfkmbdpnjcgimaaGreat

/- Contracts: node pages read and written, by the program and by the reference. Printed by geng.py. Own work. -/
namespace Go.Proofs.YtfkmbdpnjcgimaaGreat
open Go.RowKit
set_option linter.unusedVariables false
set_option linter.unusedSimpArgs false
set_option maxRecDepth 100000
/-- The retired entry of a word. -/
def retE (w : BitVec 64) : Re := if w = 0#64 then Re.nil else ⟨unpackP (w.setWidth 32), (w >>> 32).setWidth 32⟩
def retB (w : BitVec 64) : Bool := decide (w = 0#64) || validP (unpackP (w.setWidth 32))
theorem ret_0 {w : BitVec 64} (h : w = 0#64) : retE w = Re.nil ∧ retB w = true := by
  refine ⟨by unfold retE; rw [if_pos h], by unfold retB; rw [decide_eq_true h]; rfl⟩
theorem ret_1 {w : BitVec 64} (h : ¬ w = 0#64) : retE w = ⟨unpackP (w.setWidth 32), (w >>> 32).setWidth 32⟩ ∧ retB w = validP (unpackP (w.setWidth 32)) := by
  refine ⟨by unfold retE; rw [if_neg h], by unfold retB; rw [decide_eq_false h]; rfl⟩
-- segment.unpackRetired: function 21
theorem unpackRetired_ok (w : BitVec 64) : FnP Tryz.prog 21 [Is (.int .u64 (UV w))] (IsTup [IsRe (retE w), Is (.bool (retB w))]) := by
  refine FnP.enter Tryz.func21 Tryz.ntmps21 rfl rfl ?_
  intro c hX
  refine JC_seq (JC_region ?_)
  (refine JL_n rfl (op_allocN rfl nrmT rfl) ?_; intro i2)
  refine JL_1 rfl (op_assign rfl) (JL_nil ?_)
  refine JQ_then (JC_seq (JC_seq ?_))
  refine JC_region (JL_1 rfl (op_move rfl) (JL_1 rfl (op_eql (Ev.rfl' rfl) (Ev.rfl' rfl)) (JL_nil (JQ_then ?_))))
  refine JC_cond (Ev.rfl' rfl) (fun h1 => ?_) (fun h1 => ?_)
  · have h : w = 0#64 := by rw [← uv0_iff]; simpa using h1
    rw [(ret_0 h).1, (ret_0 h).2]
    refine JC_seq (JC_region (JL_1 rfl (op_buildN (qs := []) rfl rfl rfl rfl trivial (by rfl) nrmT) ?_))
    refine JL_s0 (op_storeN (Ev.rfl' rfl) (Ev.rfl' rfl) cellsT replT nrmT (by rfl) (by rfl) (by rfl)) ?_
    refine JL_1 rfl (op_assign rfl) (JL_nil ?_)
    refine JQ_then (JC_ret (JQ_then_ret ?_))
    exact JQ_ret (Bs := [IsRe Re.nil, Is (.bool true)]) Tryz.results21 ⟨⟨_, _, _, _, rfl, memT, rfl, .inr ⟨rfl, _, rfl, rfl, subT⟩⟩, ⟨⟨_, rfl, subT⟩, trivial⟩⟩ () SubL.rfl' (List.nil_sublist _)
  have h : ¬ w = 0#64 := by rw [← uv0_iff]; simpa using h1
  rw [(ret_1 h).1, (ret_1 h).2]
  refine JC_skip (JQ_then (JC_seq ?_))
  refine JC_region (JL_1 rfl (op_move rfl) (JL_1 rfl (op_conv (Ev.rfl' rfl) rfl rfl convT) ?_))
  refine JL_1 rfl (op_call Tryz.call44 (Unpack_ok _) ⟨evS, trivial⟩) ?_
  refine JL_1 rfl (op_move rfl) (JL_1 rfl (by exact op_shrU (k := 32) ev64 (Ev.rfl' rfl) (by omega) idxT) ?_)
  refine JL_1 rfl (op_conv (Ev.rfl' rfl) rfl rfl convT) ?_
  refine JL_1 rfl (op_buildN (qs := [(0, _), (1, _)]) rfl rfl rfl rfl ⟨⟨rfl, _, (Ev.rfl' rfl), cellsT⟩, ⟨⟨rfl, _, (Ev.rfl' rfl), cellsT⟩, trivial⟩⟩ (by rfl) nrmT) ?_
  (refine JL_n rfl (op_allocN rfl nrmT rfl) ?_; intro i4)
  refine JL_s0 (op_storeN (Ev.rfl' rfl) (Ev.rfl' rfl) cellsT replT nrmT (by rfl) (by rfl) (by rfl)) ?_
  refine JL_nil ?_
  refine JQ_then (JC_seq ?_)
  refine JC_dr rfl (by kernel_rfl) ?_
  refine JD_front (it := blk i2 _ _) (by repeat (first | exact Drop1.here _ _ | apply Drop1.next)) ?_
  refine JD_stretchG (its := [_]) 6 (by kernel_rfl) ?_
  refine JW_1 (by exact op_loadPtrsN (n := 3) (Ev.rfl' rfl) memT (by rfl) (by rfl) (by rfl) (by rfl) nrmT) ?_
  refine JW_1 (by exact op_fieldPtr (k := 0) (Ev.rfl' rfl) rfl rfl rfl rfl) ?_
  refine JW_1 (by exact op_loadPtrsN (n := 2) (Ev.rfl' rfl) memT (by rfl) (by rfl) (by rfl) (by rfl) nrmT) ?_
  refine JW_1 (op_call Tryz.call45 (ValidP_ok _) ⟨evS, trivial⟩) ?_
  refine JW_ghost (s := 19) rfl rfl rfl (by kernel_rfl) (fun c' => by exact op_store (Ev.rfl' rfl) (Ev.rfl' rfl) cellsT replT (by rfl) (by rfl) (by rfl)) ?_
  refine JW_1 (op_assign rfl) ?_
  refine ⟨rfl, ?_⟩
  intro _
  refine JD_end ?_
  refine JQ_then (JC_ret ?_)
  exact JQ_ret (Bs := [IsRe ⟨unpackP (w.setWidth 32), (w >>> 32).setWidth 32⟩, Is (.bool (validP (unpackP (w.setWidth 32))))]) Tryz.results21 ⟨⟨_, _, _, _, rfl, memT, rfl, .inr ⟨rfl, _, rfl, rfl, subT⟩⟩, ⟨⟨_, rfl, subT⟩, trivial⟩⟩ () SubL.rfl' (List.nil_sublist _)
def pinV (p : Pg) : Bool := decide (UV p.d0 > 0)
def epV (p : Pg) : BitVec 32 := if UV p.d0 > 0 then (p.d0 - 1#64).setWidth 32 else 0#32
def reK (k j : Nat) (r : Re) : Re := if j < k then r else Re.nil
def ndK (p : Pg) (k : Nat) : Nd := ⟨pinV p, epV p, p.d1.setWidth 32, UV p.d2, reK k 0 (retE p.d3), reK k 1 (retE p.d4), reK k 2 (retE p.d5), reK k 3 (retE p.d6)⟩
def okN (p : Pg) (k : Nat) : Bool := match k with
  | 0 => true
  | 1 => retB p.d3
  | 2 => retB p.d3 && retB p.d4
  | 3 => retB p.d3 && retB p.d4 && retB p.d5
  | _ => retB p.d3 && retB p.d4 && retB p.d5 && retB p.d6
def badN (p : Pg) : Bool := decide (UV p.d0 > 4294967296) || decide (UV p.d1 > 511) || decide (UV p.d2 > 59)
def readN (p : Pg) : Nd × Int := if ownB p.l = true then (if badN p = true then (Nd.nil, 14) else if okN p 4 = true then (ndK p 4, 0) else (Nd.nil, 14)) else (Nd.nil, 1)
theorem bad_rng {p : Pg} (h : badN p = false) : UV p.d0 ≤ 4294967296 ∧ UV p.d1 ≤ 511 ∧ UV p.d2 ≤ 59 := by
  unfold badN at h
  simp at h
  omega
theorem readN_1 {p : Pg} (h : ownB p.l = false) : readN p = (Nd.nil, 1) := by unfold readN; rw [if_neg (by rw [h]; simp)]
theorem readN_b {p : Pg} (h : ownB p.l = true) (h1 : badN p = true) : readN p = (Nd.nil, 14) := by unfold readN; rw [if_pos h, if_pos h1]
theorem readN_x {p : Pg} (h : ownB p.l = true) (h1 : badN p = false) (h2 : okN p 4 = false) : readN p = (Nd.nil, 14) := by unfold readN; rw [if_pos h, if_neg (by rw [h1]; simp), if_neg (by rw [h2]; simp)]
theorem readN_0 {p : Pg} (h : ownB p.l = true) (h1 : badN p = false) (h2 : okN p 4 = true) : readN p = (ndK p 4, 0) := by unfold readN; rw [if_pos h, if_neg (by rw [h1]; simp), if_pos h2]
theorem okN_bad0 {p : Pg} (h : retB p.d3 = false) : okN p 4 = false := by unfold okN; simp [h]
theorem okN_add0 {p : Pg} (h0 : okN p 0 = true) (h : retB p.d3 = true) : okN p 1 = true := by unfold okN at h0 ⊢; simp_all
theorem okN_bad1 {p : Pg} (h : retB p.d4 = false) : okN p 4 = false := by unfold okN; simp [h]
theorem okN_add1 {p : Pg} (h0 : okN p 1 = true) (h : retB p.d4 = true) : okN p 2 = true := by unfold okN at h0 ⊢; simp_all
theorem okN_bad2 {p : Pg} (h : retB p.d5 = false) : okN p 4 = false := by unfold okN; simp [h]
theorem okN_add2 {p : Pg} (h0 : okN p 2 = true) (h : retB p.d5 = true) : okN p 3 = true := by unfold okN at h0 ⊢; simp_all
theorem okN_bad3 {p : Pg} (h : retB p.d6 = false) : okN p 4 = false := by unfold okN; simp [h]
theorem okN_add3 {p : Pg} (h0 : okN p 3 = true) (h : retB p.d6 = true) : okN p 4 = true := by unfold okN at h0 ⊢; simp_all
-- segment.ReadNode: function 8
set_option maxHeartbeats 8000000 in
theorem ReadNode_ok (p : Pg) : FnP Tryz.prog 8 [IsPg p] (IsTup [IsNd (readN p).1, Is (.int .i64 (readN p).2)]) := by
  have z2 := UV_nonneg p.d2
  refine FnP.enter Tryz.func8 Tryz.ntmps8 rfl rfl ?_
  intro c hX
  refine JC_seq (JC_region ?_)
  (refine JL_n rfl (op_box (Ev.rfl' rfl) cellsT) ?_; intro i1)
  (refine JL_n rfl (op_allocN rfl nrmT rfl) ?_; intro i2)
  refine JL_1 rfl (op_assign rfl) (JL_nil ?_)
  refine JQ_then (JC_seq (JC_seq ?_))
  refine JC_region (JL_1 rfl (by exact op_fieldPtr (k := 0) (Ev.rfl' rfl) rfl rfl rfl rfl) ?_)
  refine JL_1 rfl (by exact op_loadPtr (Ev.rfl' rfl) memT (by rfl) (by rfl) (by rfl)) ?_
  refine JL_1 rfl (op_call Tryz.call20 (isNodeLine_ok _) ⟨evS, trivial⟩) ?_
  refine JL_1 rfl (op_not (Ev.rfl' rfl)) (JL_nil (JQ_then ?_))
  refine JC_cond (Ev.rfl' rfl) (fun h1 => ?_) (fun h1 => ?_)
  · have hl : ownB p.l = false := by simpa using h1
    rw [readN_1 hl]
    refine JC_seq (JC_region (JL_1 rfl (op_buildN (qs := []) rfl rfl rfl rfl trivial (by rfl) nrmT) ?_))
    refine JL_s0 (op_storeN (Ev.rfl' rfl) (Ev.rfl' rfl) cellsT replT nrmT (by rfl) (by rfl) (by rfl)) ?_
    refine JL_1 rfl (op_assign rfl) (JL_nil ?_)
    refine JQ_then (JC_ret (JQ_then_ret ?_))
    exact JQ_ret (Bs := [IsNd Nd.nil, Is (.int .i64 1)]) Tryz.results8 ⟨⟨_, _, _, _, rfl, memT, rfl, .inr ⟨rfl, _, rfl, rfl, subT⟩⟩, ⟨⟨_, rfl, subT⟩, trivial⟩⟩ () SubL.rfl' (List.nil_sublist _)
  have hl : ownB p.l = true := by simpa using h1
  refine JC_skip (JQ_then (JC_seq (JC_seq ?_)))
  refine JC_region (JL_1 rfl (by exact op_fieldPtr (k := 2) (Ev.rfl' rfl) rfl rfl rfl rfl) ?_)
  refine JL_1 rfl (op_indexArr (k := 0) (sz := 1) (Ev.rfl' rfl) (Ev.rfl' rfl) rfl rfl idxT (by decide)) ?_
  refine JL_1 rfl (by exact op_loadPtr (Ev.rfl' rfl) memT (by rfl) (by rfl) (by rfl)) ?_
  refine JL_1 rfl (op_gtr (Ev.rfl' rfl) (Ev.rfl' rfl)) (JL_1 rfl (op_move rfl) ?_)
  (refine JL_i0 rfl rfl rfl (fun hg => (by have hg0 := hg; (try simp at hg); exact op_fieldPtr (k := 2) evG rfl rfl rfl rfl)) ?_)
  (refine JL_i0 rfl rfl rfl (fun hg => (by have hg0 := hg; (try simp at hg); exact op_indexArr (k := 1) (sz := 1) evG evG rfl rfl idxT (by decide))) ?_)
  (refine JL_i0 rfl rfl rfl (fun hg => (by have hg0 := hg; (try simp at hg); exact op_loadPtr evG memT (by rfl) (by rfl) (by rfl))) ?_)
  (refine JL_i0 rfl rfl rfl (fun hg => (by have hg0 := hg; (try simp at hg); exact op_geq evG evG)) ?_)
  refine JL_1 rfl (op_or (Ev.rfl' rfl) rfl (fun h => by exact SubL.iteT (by (rw [h]; rfl)) SubL.rfl')) ?_
  refine JL_1 rfl (op_move rfl) ?_
  (refine JL_i0 rfl rfl rfl (fun hg => (by have hg0 := hg; (try simp at hg); exact op_fieldPtr (k := 2) evG rfl rfl rfl rfl)) ?_)
  (refine JL_i0 rfl rfl rfl (fun hg => (by have hg0 := hg; (try simp at hg); exact op_indexArr (k := 2) (sz := 1) evG evG rfl rfl idxT (by decide))) ?_)
  (refine JL_i0 rfl rfl rfl (fun hg => (by have hg0 := hg; (try simp at hg); exact op_loadPtr evG memT (by rfl) (by rfl) (by rfl))) ?_)
  (refine JL_i0 rfl rfl rfl (fun hg => (by have hg0 := hg; (try simp at hg); exact op_gtr evG evG)) ?_)
  refine JL_1 rfl (op_or (Ev.rfl' rfl) rfl (fun h => by exact SubL.iteT (by (rw [h]; rfl)) SubL.rfl')) ?_
  refine JL_nil (JQ_then ?_)
  refine JC_cond (Ev.rfl' rfl) (fun h3 => ?_) (fun h3 => ?_)
  · have hb : badN p = true := by rw [← h3]; unfold badN; congr 2
    rw [readN_b hl hb]
    refine JC_seq (JC_region (JL_1 rfl (op_buildN (qs := []) rfl rfl rfl rfl trivial (by rfl) nrmT) ?_))
    refine JL_s0 (op_storeN (Ev.rfl' rfl) (Ev.rfl' rfl) cellsT replT nrmT (by rfl) (by rfl) (by rfl)) ?_
    refine JL_1 rfl (op_assign rfl) (JL_nil ?_)
    refine JQ_then (JC_ret (JQ_then_ret ?_))
    exact JQ_ret (Bs := [IsNd Nd.nil, Is (.int .i64 14)]) Tryz.results8 ⟨⟨_, _, _, _, rfl, memT, rfl, .inr ⟨rfl, _, rfl, rfl, subT⟩⟩, ⟨⟨_, rfl, subT⟩, trivial⟩⟩ () SubL.rfl' (List.nil_sublist _)
  have hb : badN p = false := by rw [← h3]; unfold badN; congr 2
  clear h3
  obtain ⟨b0, b1, b2⟩ := bad_rng hb
  refine JC_skip (JQ_then (JC_seq ?_))
  refine JC_region (JL_1 rfl (by exact op_fieldPtr (k := 2) (Ev.rfl' rfl) rfl rfl rfl rfl) ?_)
  refine JL_1 rfl (op_indexArr (k := 1) (sz := 1) (Ev.rfl' rfl) (Ev.rfl' rfl) rfl rfl idxT (by decide)) ?_
  refine JL_1 rfl (by exact op_loadPtr (Ev.rfl' rfl) memT (by rfl) (by rfl) (by rfl)) ?_
  refine JL_1 rfl (op_conv (Ev.rfl' rfl) rfl rfl convT) ?_
  refine JL_1 rfl (by exact op_fieldPtr (k := 2) (Ev.rfl' rfl) rfl rfl rfl rfl) ?_
  refine JL_1 rfl (op_indexArr (k := 2) (sz := 1) (Ev.rfl' rfl) (Ev.rfl' rfl) rfl rfl idxT (by decide)) ?_
  refine JL_1 rfl (by exact op_loadPtr (Ev.rfl' rfl) memT (by rfl) (by rfl) (by rfl)) ?_
  refine JL_1 rfl (op_conv (Ev.rfl' rfl) rfl rfl convT) ?_
  refine JL_1 rfl (op_buildN (qs := [(2, _), (3, _)]) rfl rfl rfl rfl ⟨⟨rfl, _, (Ev.rfl' rfl), cellsT⟩, ⟨⟨rfl, _, (Ev.rfl' rfl), cellsT⟩, trivial⟩⟩ (by rfl) nrmT) ?_
  (refine JL_n rfl (op_allocN rfl nrmT rfl) ?_; intro i4)
  refine JL_s0 (op_storeN (Ev.rfl' rfl) (Ev.rfl' rfl) cellsT replT nrmT (by rfl) (by rfl) (by rfl)) ?_
  refine JL_nil ?_
  refine JQ_then (JC_seq (JC_seq ?_))
  refine JC_region (JL_1 rfl (by exact op_fieldPtr (k := 2) (Ev.rfl' rfl) rfl rfl rfl rfl) ?_)
  refine JL_1 rfl (op_indexArr (k := 0) (sz := 1) (Ev.rfl' rfl) (Ev.rfl' rfl) rfl rfl idxT (by decide)) ?_
  refine JL_1 rfl (by exact op_loadPtr (Ev.rfl' rfl) memT (by rfl) (by rfl) (by rfl)) ?_
  refine JL_1 rfl (op_gtr (Ev.rfl' rfl) (Ev.rfl' rfl)) (JL_nil (JQ_then (JC_cutT (fun _ : Unit => True) (fun _ => [(1, Is (.pointer (some ⟨i1, 0, none⟩))), (2, Is (.pointer (some ⟨i2, 0, none⟩))), (4, Is (.pointer (some ⟨i4, 0, none⟩)))]) (fun _ => [blk i4 44 (tNd.cells (ndK p 0)), blk i2 44 (tNd.cells Nd.nil), blk i1 51 (tPg.cells p)]) ?_ ?_)))
  rotate_left
  focus
    refine JC_cond (Ev.rfl' rfl) (fun h6 => ?_) (fun h6 => ?_)
    · have h7 : UV p.d0 > 0 := of_decide_eq_true h6
      have e1 : pinV p = true := h6
      have e2 : epV p = (p.d0 - 1#64).setWidth 32 := by unfold epV; rw [if_pos h7]
      clear h6
      refine JC_dr rfl (by kernel_rfl) ?_
      refine JD_front (it := blk i4 _ _) (by repeat (exact Drop1.here _ _)) ?_
      refine JD_stretchG (its := [_]) 9 (by kernel_rfl) ?_
      refine JW_1 (by exact op_fieldPtr (k := 2) (Ev.rfl' rfl) rfl rfl rfl rfl) ?_
      refine JW_1 (op_indexArr (k := 0) (sz := 1) (Ev.rfl' rfl) (Ev.rfl' rfl) rfl rfl idxT (by decide)) ?_
      refine JW_1 (by exact op_loadPtr (Ev.rfl' rfl) memT (by rfl) (by rfl) (by rfl)) ?_
      refine JW_1 (by exact op_binU ev64 ev64 (sub_u64 _ _ _)) ?_
      refine JW_1 (op_conv (Ev.rfl' rfl) rfl rfl convT) ?_
      refine JW_1 (by exact op_fieldPtr (k := 0) (Ev.rfl' rfl) rfl rfl rfl rfl) ?_
      refine JW_ghost (s := 71) rfl rfl rfl (by kernel_rfl) (fun c' => by exact op_store (Ev.rfl' rfl) (Ev.rfl' rfl) cellsT replT (by rfl) (by rfl) (by rfl)) ?_
      refine JW_1 (by exact op_fieldPtr (k := 1) (Ev.rfl' rfl) rfl rfl rfl rfl) ?_
      refine JW_ghost (s := 71) rfl rfl rfl (by kernel_rfl) (fun c' => by exact op_store (Ev.rfl' rfl) (Ev.rfl' rfl) cellsT replT (by rfl) (by rfl) (by rfl)) ?_
      refine ⟨rfl, ?_⟩
      intro _
      refine JD_end (JQ_blkSub (b := i4) (As' := tNd.cells (ndK p 0)) replT (by show SubLs _ _ [Is (.bool (pinV p)), Is (.int .u32 (UV (epV p))), _, _, _, _, _, _, _, _, _, _, _, _, _, _]; rw [e1, e2]; exact subsT) ?_)
      exact JQ_meetP () trivial esubT lessT
    have h7 : ¬ UV p.d0 > 0 := of_decide_eq_false h6
    have e1 : pinV p = false := h6
    have e2 : epV p = 0#32 := by unfold epV; rw [if_neg h7]
    clear h6
    refine JC_skip (JQ_blkSub (b := i4) (As' := tNd.cells (ndK p 0)) replT (by show SubLs _ _ [Is (.bool (pinV p)), Is (.int .u32 (UV (epV p))), _, _, _, _, _, _, _, _, _, _, _, _, _, _]; rw [e1, e2]; exact subsT) ?_)
    exact JQ_meetP () trivial esubT lessT
  rintro _ _
  refine JC_seq (JC_seq ?_)
  refine JC_region (JL_1 rfl (op_move rfl) (JL_nil ?_))
  refine JQ_then (JC_block ?_)
  refine JC_loopP (fun k : Nat => k ≤ 4 ∧ okN p k = true) (fun k => [(1, Is (.pointer (some ⟨i1, 0, none⟩))), (2, Is (.pointer (some ⟨i2, 0, none⟩))), (4, Is (.pointer (some ⟨i4, 0, none⟩))), (50, Is (.int .i64 (k : Nat)))]) (fun k => [blk i4 44 (tNd.cells (ndK p k)), blk i2 44 (tNd.cells Nd.nil), blk i1 51 (tPg.cells p)]) (fun k => 4 - k) 0 ⟨Nat.zero_le _, rfl⟩ esubT lessT ?_
  rintro k ⟨hk, hok⟩
  refine JC_seq (JC_region (JL_1 rfl (op_lss (Ev.rfl' rfl) (Ev.rfl' rfl)) (JL_nil ?_)))
  refine JQ_then (JC_seq ?_)
  refine JC_cond (Ev.rfl' rfl) (fun h9 => ?_) (fun h9 => ?_)
  · have hk4 : k = 0 ∨ k = 1 ∨ k = 2 ∨ k = 3 := by have := of_decide_eq_true h9; omega
    clear h9
    rcases hk4 with rfl | rfl | rfl | rfl
    all_goals
      refine JC_skip (JQ_then (JC_seq (JC_block (JC_seq ?_))))
      refine JC_region (JL_1 rfl (op_move rfl) (JL_1 rfl (op_assign rfl) (JL_nil ?_)))
      refine JQ_then (JC_seq ?_)
      refine JC_region (JL_1 rfl (op_move rfl) (JL_1 rfl (op_add (Ev.rfl' rfl) (Ev.rfl' rfl) wrapT) ?_))
      refine JL_1 rfl (by exact op_fieldPtr (k := 2) (Ev.rfl' rfl) rfl rfl rfl rfl) ?_
      refine JL_1 rfl (by first | exact op_indexArr (k := 3) (sz := 1) (Ev.rfl' rfl) (Ev.rfl' rfl) rfl rfl (by decide) (by decide) | exact op_indexArr (k := 4) (sz := 1) (Ev.rfl' rfl) (Ev.rfl' rfl) rfl rfl (by decide) (by decide) | exact op_indexArr (k := 5) (sz := 1) (Ev.rfl' rfl) (Ev.rfl' rfl) rfl rfl (by decide) (by decide) | exact op_indexArr (k := 6) (sz := 1) (Ev.rfl' rfl) (Ev.rfl' rfl) rfl rfl (by decide) (by decide)) ?_
      refine JL_1 rfl (by exact op_loadPtr (Ev.rfl' rfl) memT (by rfl) (by rfl) (by rfl)) ?_
      refine JL_1 rfl (op_call Tryz.call21 (unpackRetired_ok _) ⟨evS, trivial⟩) ?_
      refine JL_1 rfl (op_move rfl) (JL_1 rfl (op_extract (Ev.rfl' rfl) rfl) (JL_1 rfl (op_extract (Ev.rfl' rfl) rfl) ?_))
      (refine JL_n rfl (op_allocN rfl nrmT rfl) ?_; intro i6)
      refine JL_s0 (op_storeN (Ev.rfl' rfl) (Ev.rfl' rfl) cellsT replT nrmT (by rfl) (by rfl) (by rfl)) ?_
      refine JL_1 rfl (op_assign rfl) (JL_nil ?_)
      refine JQ_then (JC_seq (JC_seq ?_))
      refine JC_region (JL_1 rfl (op_move rfl) (JL_1 rfl (op_not (Ev.rfl' rfl)) (JL_nil (JQ_then ?_))))
      refine JC_cond (Ev.rfl' rfl) (fun h12 => ?_) (fun h12 => ?_)
      · have hbad : okN p 4 = false := by first | exact okN_bad0 (by simpa using h12) | exact okN_bad1 (by simpa using h12) | exact okN_bad2 (by simpa using h12) | exact okN_bad3 (by simpa using h12)
        rw [readN_x hl hb hbad]
        refine JC_seq (JC_region (JL_1 rfl (op_buildN (qs := []) rfl rfl rfl rfl trivial (by rfl) nrmT) ?_))
        refine JL_s0 (op_storeN (Ev.rfl' rfl) (Ev.rfl' rfl) cellsT replT nrmT (by rfl) (by rfl) (by rfl)) ?_
        refine JL_1 rfl (op_assign rfl) (JL_nil ?_)
        refine JQ_then (JC_ret (JQ_then_ret (JQ_block_ret (JQ_then_ret (JQ_then_ret (JQ_block_ret (JQ_then_ret ?_)))))))
        exact JQ_ret (Bs := [IsNd Nd.nil, Is (.int .i64 14)]) Tryz.results8 ⟨⟨_, _, _, _, rfl, memT, rfl, .inr ⟨rfl, _, rfl, rfl, subT⟩⟩, ⟨⟨_, rfl, subT⟩, trivial⟩⟩ () SubL.rfl' (List.nil_sublist _)
      refine JC_skip (JQ_then ?_)
      refine JC_region (JL_1 rfl (op_move rfl) (JL_1 rfl (by exact op_loadPtrsN (n := 3) (Ev.rfl' rfl) memT (by rfl) (by rfl) (by rfl) (by rfl) nrmT) ?_))
      refine JL_1 rfl (by exact op_fieldPtr (k := 4) (Ev.rfl' rfl) rfl rfl rfl rfl) ?_
      refine JL_1 rfl (by first | exact op_indexArr (k := 0) (sz := 3) (Ev.rfl' rfl) (Ev.rfl' rfl) rfl rfl (by decide) (by decide) | exact op_indexArr (k := 1) (sz := 3) (Ev.rfl' rfl) (Ev.rfl' rfl) rfl rfl (by decide) (by decide) | exact op_indexArr (k := 2) (sz := 3) (Ev.rfl' rfl) (Ev.rfl' rfl) rfl rfl (by decide) (by decide) | exact op_indexArr (k := 3) (sz := 3) (Ev.rfl' rfl) (Ev.rfl' rfl) rfl rfl (by decide) (by decide)) ?_
      refine JL_s0 (op_storeN (Ev.rfl' rfl) (Ev.rfl' rfl) cellsT replT nrmT (by rfl) (by rfl) (by rfl)) ?_
      refine JL_nil ?_
      refine JQ_block (JQ_then ?_)
      refine JC_region (JL_1 rfl (op_add (Ev.rfl' rfl) (Ev.rfl' rfl) wrapT) ?_)
      refine JL_1 rfl (op_move rfl) (JL_nil ?_)
      first | exact JQ_roundP 1 ⟨by omega, okN_add0 (by assumption) (by simpa using h12)⟩ (by omega) esubT lessT | exact JQ_roundP 2 ⟨by omega, okN_add1 (by assumption) (by simpa using h12)⟩ (by omega) esubT lessT | exact JQ_roundP 3 ⟨by omega, okN_add2 (by assumption) (by simpa using h12)⟩ (by omega) esubT lessT | exact JQ_roundP 4 ⟨by omega, okN_add3 (by assumption) (by simpa using h12)⟩ (by omega) esubT lessT
  have hk4 : k = 4 := by have := of_decide_eq_false h9; omega
  subst hk4
  rw [readN_0 hl hb hok]
  refine JC_exit (JQ_then_exit (JQ_then_exit (JQ_hit (JQ_then (JC_seq ?_)))))
  refine JC_region (JL_1 rfl (by exact op_loadPtrsN (n := 16) (Ev.rfl' rfl) memT (by rfl) (by rfl) (by rfl) (by rfl) nrmT) ?_)
  refine JL_s0 (op_storeN (Ev.rfl' rfl) (Ev.rfl' rfl) cellsT replT nrmT (by rfl) (by rfl) (by rfl)) ?_
  refine JL_1 rfl (op_assign rfl) (JL_nil ?_)
  refine JQ_then (JC_ret ?_)
  exact JQ_ret (Bs := [IsNd (ndK p 4), Is (.int .i64 0)]) Tryz.results8 ⟨⟨_, _, _, _, rfl, memT, rfl, .inr ⟨rfl, _, rfl, rfl, subT⟩⟩, ⟨⟨_, rfl, subT⟩, trivial⟩⟩ () SubL.rfl' (List.nil_sublist _)
def rwV (r : Re) : BitVec 64 := if r = Re.nil then 0#64 else packW (packP r.to) (r.ep.setWidth 64)
def rwB (r : Re) : Bool := decide (r = Re.nil) || validP r.to
def rwK (k j : Nat) (w : BitVec 64) : BitVec 64 := if j < k then w else 0#64
def pinW (n : Nd) : BitVec 64 := if n.pin = true then n.ep.setWidth 64 + 1#64 else 0#64
def pgK (p : Pg) (n : Nd) (k : Nat) : Pg := ⟨p.l, p.h, pinW n, n.sg.setWidth 64, BitVec.ofInt 64 n.inc, rwK k 0 (rwV n.r0), rwK k 1 (rwV n.r1), rwK k 2 (rwV n.r2), rwK k 3 (rwV n.r3)⟩
def okR (n : Nd) (k : Nat) : Bool := match k with
  | 0 => true
  | 1 => rwB n.r0
  | 2 => rwB n.r0 && rwB n.r1
  | 3 => rwB n.r0 && rwB n.r1 && rwB n.r2
  | _ => rwB n.r0 && rwB n.r1 && rwB n.r2 && rwB n.r3
def badW (p : Pg) (n : Nd) : Bool := !ownB p.l || ((!n.pin && UV n.ep != 0) || (decide (UV n.sg > 511) || (decide (n.inc < 0) || decide (n.inc > 59))))
def writeN (p : Pg) (n : Nd) : Pg × Int := if badW p n = true then (Pg.nil, 1) else if okR n 4 = true then (pgK p n 4, 0) else (Pg.nil, 1)
theorem badW_rng {p : Pg} {n : Nd} (h : badW p n = false) : 0 ≤ n.inc ∧ n.inc ≤ 59 ∧ UV n.sg ≤ 511 := by
  unfold badW at h
  simp at h
  omega
theorem writeN_b {p : Pg} {n : Nd} (h : badW p n = true) : writeN p n = (Pg.nil, 1) := by unfold writeN; rw [if_pos h]
theorem writeN_x {p : Pg} {n : Nd} (h : badW p n = false) (h2 : okR n 4 = false) : writeN p n = (Pg.nil, 1) := by unfold writeN; rw [if_neg (by rw [h]; simp), if_neg (by rw [h2]; simp)]
theorem writeN_0 {p : Pg} {n : Nd} (h : badW p n = false) (h2 : okR n 4 = true) : writeN p n = (pgK p n 4, 0) := by unfold writeN; rw [if_neg (by rw [h]; simp), if_pos h2]
theorem okR_bad0 {n : Nd} (h : rwB n.r0 = false) : okR n 4 = false := by unfold okR; simp [h]
theorem okR_add0 {n : Nd} (h0 : okR n 0 = true) (h : rwB n.r0 = true) : okR n 1 = true := by unfold okR at h0 ⊢; simp_all
theorem pgK_nil0 {p : Pg} {n : Nd} (h : n.r0 = Re.nil) : pgK p n 1 = pgK p n 0 := by unfold pgK rwK rwV; simp [h]
theorem pgK_re0 {p : Pg} {n : Nd} (h : ¬ n.r0 = Re.nil) : pgK p n 1 = { pgK p n 0 with d3 := packW (packP n.r0.to) (n.r0.ep.setWidth 64) } := by unfold pgK rwK rwV; simp [h]
theorem okR_bad1 {n : Nd} (h : rwB n.r1 = false) : okR n 4 = false := by unfold okR; simp [h]
theorem okR_add1 {n : Nd} (h0 : okR n 1 = true) (h : rwB n.r1 = true) : okR n 2 = true := by unfold okR at h0 ⊢; simp_all
theorem pgK_nil1 {p : Pg} {n : Nd} (h : n.r1 = Re.nil) : pgK p n 2 = pgK p n 1 := by unfold pgK rwK rwV; simp [h]
theorem pgK_re1 {p : Pg} {n : Nd} (h : ¬ n.r1 = Re.nil) : pgK p n 2 = { pgK p n 1 with d4 := packW (packP n.r1.to) (n.r1.ep.setWidth 64) } := by unfold pgK rwK rwV; simp [h]
theorem okR_bad2 {n : Nd} (h : rwB n.r2 = false) : okR n 4 = false := by unfold okR; simp [h]
theorem okR_add2 {n : Nd} (h0 : okR n 2 = true) (h : rwB n.r2 = true) : okR n 3 = true := by unfold okR at h0 ⊢; simp_all
theorem pgK_nil2 {p : Pg} {n : Nd} (h : n.r2 = Re.nil) : pgK p n 3 = pgK p n 2 := by unfold pgK rwK rwV; simp [h]
theorem pgK_re2 {p : Pg} {n : Nd} (h : ¬ n.r2 = Re.nil) : pgK p n 3 = { pgK p n 2 with d5 := packW (packP n.r2.to) (n.r2.ep.setWidth 64) } := by unfold pgK rwK rwV; simp [h]
theorem okR_bad3 {n : Nd} (h : rwB n.r3 = false) : okR n 4 = false := by unfold okR; simp [h]
theorem okR_add3 {n : Nd} (h0 : okR n 3 = true) (h : rwB n.r3 = true) : okR n 4 = true := by unfold okR at h0 ⊢; simp_all
theorem pgK_nil3 {p : Pg} {n : Nd} (h : n.r3 = Re.nil) : pgK p n 4 = pgK p n 3 := by unfold pgK rwK rwV; simp [h]
theorem pgK_re3 {p : Pg} {n : Nd} (h : ¬ n.r3 = Re.nil) : pgK p n 4 = { pgK p n 3 with d6 := packW (packP n.r3.to) (n.r3.ep.setWidth 64) } := by unfold pgK rwK rwV; simp [h]
theorem nilB {r : Re} (h : decide (r = Re.nil) = true) : r = Re.nil := of_decide_eq_true h
theorem nnilB {r : Re} (h : decide (r = Re.nil) = false) : ¬ r = Re.nil := of_decide_eq_false h
theorem rwB_nil {r : Re} (h : r = Re.nil) : rwB r = true := by unfold rwB; rw [decide_eq_true h]; rfl
theorem rwB_re {r : Re} (h : ¬ r = Re.nil) : rwB r = validP r.to := by unfold rwB; rw [decide_eq_false h]; rfl
theorem badW_prog (p : Pg) (n : Nd) : ((((!ownB p.l || (!n.pin && UV n.ep != 0)) || decide (UV n.sg ≥ 512)) || decide (n.inc < 0)) || decide (n.inc > 59)) = badW p n := by
  have : decide (UV n.sg ≥ 512) = decide (UV n.sg > 511) := by rw [Bool.eq_iff_iff]; simp; omega
  unfold badW
  rw [this, Bool.or_assoc, Bool.or_assoc, Bool.or_assoc]
-- segment.WriteNode: function 33
set_option maxHeartbeats 8000000 in
theorem WriteNode_ok (p : Pg) (n : Nd) : FnP Tryz.prog 33 [IsPg p, IsNd n] (IsTup [IsPg (writeN p n).1, Is (.int .i64 (writeN p n).2)]) := by
  refine FnP.enter Tryz.func33 Tryz.ntmps33 rfl rfl ?_
  intro c hX
  refine JC_seq (JC_region ?_)
  (refine JL_n rfl (op_box (Ev.rfl' rfl) cellsT) ?_; intro i2)
  (refine JL_n rfl (op_box (Ev.rfl' rfl) cellsT) ?_; intro i3)
  (refine JL_n rfl (op_allocN rfl nrmT rfl) ?_; intro i4)
  refine JL_1 rfl (op_assign rfl) (JL_nil ?_)
  refine JQ_then (JC_seq (JC_seq ?_))
  refine JC_region (JL_1 rfl (by exact op_fieldPtr (k := 0) (Ev.rfl' rfl) rfl rfl rfl rfl) ?_)
  refine JL_1 rfl (by exact op_loadPtr (Ev.rfl' rfl) memT (by rfl) (by rfl) (by rfl)) ?_
  refine JL_1 rfl (op_call Tryz.call20 (isNodeLine_ok _) ⟨evS, trivial⟩) ?_
  refine JL_1 rfl (op_not (Ev.rfl' rfl)) (JL_1 rfl (op_move rfl) ?_)
  (refine JL_i0 rfl rfl rfl (fun hg => (by have hg0 := hg; (try simp at hg); exact op_fieldPtr (k := 0) evG rfl rfl rfl rfl)) ?_)
  (refine JL_i0 rfl rfl rfl (fun hg => (by have hg0 := hg; (try simp at hg); exact op_loadPtr evG memT (by rfl) (by rfl) (by rfl))) ?_)
  (refine JL_i0 rfl rfl rfl (fun hg => (by have hg0 := hg; (try simp at hg); exact op_not evG)) ?_)
  (refine JL_i0 rfl rfl rfl (fun hg => (by have hg0 := hg; (try simp at hg); exact op_moveE (Ev.sub rfl (SubL.iteT (by assumption) SubL.rfl')))) ?_)
  (refine JL_i rfl rfl rfl (fun hp hg => (by have hpg := Bool.and_eq_true_iff.2 ⟨hp, hg⟩; have hg0 := hg; (try simp at hg); exact op_fieldPtr (k := 1) evG rfl rfl rfl rfl)) ?_)
  (refine JL_i rfl rfl rfl (fun hp hg => (by have hpg := Bool.and_eq_true_iff.2 ⟨hp, hg⟩; have hg0 := hg; (try simp at hg); exact op_loadPtr evG memT (by rfl) (by rfl) (by rfl))) ?_)
  (refine JL_i rfl rfl rfl (fun hp hg => (by have hpg := Bool.and_eq_true_iff.2 ⟨hp, hg⟩; have hg0 := hg; (try simp at hg); exact op_neq evG evG)) ?_)
  (refine JL_i0 rfl rfl rfl (fun hg => (by have hg0 := hg; (try simp at hg); exact op_and evG rfl (fun h => by exact SubL.iteT (by (simp_all; done)) SubL.rfl'))) ?_)
  refine JL_1 rfl (op_or (Ev.rfl' rfl) rfl (fun h => by exact SubL.iteT (by (rw [h]; rfl)) SubL.rfl')) ?_
  refine JL_1 rfl (op_move rfl) ?_
  (refine JL_i0 rfl rfl rfl (fun hg => (by have hg0 := hg; (try simp at hg); exact op_fieldPtr (k := 2) evG rfl rfl rfl rfl)) ?_)
  (refine JL_i0 rfl rfl rfl (fun hg => (by have hg0 := hg; (try simp at hg); exact op_loadPtr evG memT (by rfl) (by rfl) (by rfl))) ?_)
  (refine JL_i0 rfl rfl rfl (fun hg => (by have hg0 := hg; (try simp at hg); exact op_geq evG evG)) ?_)
  refine JL_1 rfl (op_or (Ev.rfl' rfl) rfl (fun h => by exact SubL.iteT (by (rw [h]; rfl)) SubL.rfl')) ?_
  refine JL_1 rfl (op_move rfl) ?_
  (refine JL_i0 rfl rfl rfl (fun hg => (by have hg0 := hg; (try simp at hg); exact op_fieldPtr (k := 3) evG rfl rfl rfl rfl)) ?_)
  (refine JL_i0 rfl rfl rfl (fun hg => (by have hg0 := hg; (try simp at hg); exact op_loadPtr evG memT (by rfl) (by rfl) (by rfl))) ?_)
  (refine JL_i0 rfl rfl rfl (fun hg => (by have hg0 := hg; (try simp at hg); exact op_lss evG evG)) ?_)
  refine JL_1 rfl (op_or (Ev.rfl' rfl) rfl (fun h => by exact SubL.iteT (by (rw [h]; rfl)) SubL.rfl')) ?_
  refine JL_1 rfl (op_move rfl) ?_
  (refine JL_i0 rfl rfl rfl (fun hg => (by have hg0 := hg; (try simp at hg); exact op_fieldPtr (k := 3) evG rfl rfl rfl rfl)) ?_)
  (refine JL_i0 rfl rfl rfl (fun hg => (by have hg0 := hg; (try simp at hg); exact op_loadPtr evG memT (by rfl) (by rfl) (by rfl))) ?_)
  (refine JL_i0 rfl rfl rfl (fun hg => (by have hg0 := hg; (try simp at hg); exact op_gtr evG evG)) ?_)
  refine JL_1 rfl (op_or (Ev.rfl' rfl) rfl (fun h => by exact SubL.iteT (by (rw [h]; rfl)) SubL.rfl')) ?_
  refine JL_nil (JQ_then ?_)
  refine JC_cond (Ev.rfl' rfl) (fun h1 => ?_) (fun h1 => ?_)
  · have hb : badW p n = true := by rw [← badW_prog]; exact h1
    rw [writeN_b hb]
    refine JC_seq (JC_region (JL_1 rfl (op_buildN (qs := []) rfl rfl rfl rfl trivial (by rfl) nrmT) ?_))
    refine JL_s0 (op_storeN (Ev.rfl' rfl) (Ev.rfl' rfl) cellsT replT nrmT (by rfl) (by rfl) (by rfl)) ?_
    refine JL_1 rfl (op_assign rfl) (JL_nil ?_)
    refine JQ_then (JC_ret (JQ_then_ret ?_))
    exact JQ_ret (Bs := [IsPg Pg.nil, Is (.int .i64 1)]) Tryz.results33 ⟨⟨_, _, _, _, rfl, memT, rfl, .inr ⟨rfl, _, rfl, rfl, subT⟩⟩, ⟨⟨_, rfl, subT⟩, trivial⟩⟩ () SubL.rfl' (List.nil_sublist _)
  have hb : badW p n = false := by rw [← badW_prog]; exact h1
  clear h1
  obtain ⟨b0, b1, b2⟩ := badW_rng hb
  refine JC_skip (JQ_then (JC_seq ?_))
  refine JC_region (JL_1 rfl (by exact op_fieldPtr (k := 2) (Ev.rfl' rfl) rfl rfl rfl rfl) ?_)
  refine JL_1 rfl (by exact op_loadPtr (Ev.rfl' rfl) memT (by rfl) (by rfl) (by rfl)) ?_
  refine JL_1 rfl (op_conv (Ev.rfl' rfl) rfl rfl convT) ?_
  refine JL_1 rfl (by exact op_fieldPtr (k := 3) (Ev.rfl' rfl) rfl rfl rfl rfl) ?_
  refine JL_1 rfl (by exact op_loadPtr (Ev.rfl' rfl) memT (by rfl) (by rfl) (by rfl)) ?_
  refine JL_1 rfl (op_conv (Ev.rfl' rfl) rfl rfl convT) ?_
  refine JL_set 43 (Is (.int .u64 (UV (BitVec.ofInt 64 n.inc)))) rfl (SubL.eq (congrArg Is (u64lit (by omega)))) ?_
  refine JL_1 rfl (op_buildArr (size := 1) (qs := [(0, _), (1, _), (2, _)]) rfl rfl rfl rfl ⟨⟨rfl, _, (Ev.rfl' rfl), cellsT⟩, ⟨⟨rfl, _, (Ev.rfl' rfl), cellsT⟩, ⟨⟨rfl, _, (Ev.rfl' rfl), cellsT⟩, trivial⟩⟩⟩ (by rfl) nrmT) ?_
  refine JL_1 rfl (by exact op_fieldPtr (k := 2) (Ev.rfl' rfl) rfl rfl rfl rfl) ?_
  refine JL_s0 (op_storeN (Ev.rfl' rfl) (Ev.rfl' rfl) cellsT replT nrmT (by rfl) (by rfl) (by rfl)) ?_
  refine JL_nil ?_
  refine JQ_then (JC_seq (JC_seq ?_))
  refine JC_region (JL_1 rfl (by exact op_fieldPtr (k := 0) (Ev.rfl' rfl) rfl rfl rfl rfl) ?_)
  refine JL_1 rfl (by exact op_loadPtr (Ev.rfl' rfl) memT (by rfl) (by rfl) (by rfl)) ?_
  refine JL_nil (JQ_then (JC_cutT (fun _ : Unit => True) (fun _ => [(2, Is (.pointer (some ⟨i2, 0, none⟩))), (3, Is (.pointer (some ⟨i3, 0, none⟩))), (4, Is (.pointer (some ⟨i4, 0, none⟩)))]) (fun _ => [blk i2 51 (tPg.cells (pgK p n 0)), blk i4 51 (tPg.cells Pg.nil), blk i3 44 (tNd.cells n)]) ?_ ?_))
  rotate_left
  focus
    refine JC_cond (Ev.rfl' rfl) (fun h4 => ?_) (fun h4 => ?_)
    · have e1 : pinW n = n.ep.setWidth 64 + 1#64 := by unfold pinW; rw [if_pos h4]
      refine JC_region (JL_1 rfl (by exact op_fieldPtr (k := 1) (Ev.rfl' rfl) rfl rfl rfl rfl) ?_)
      refine JL_1 rfl (by exact op_loadPtr (Ev.rfl' rfl) memT (by rfl) (by rfl) (by rfl)) ?_
      refine JL_1 rfl (op_conv (Ev.rfl' rfl) rfl rfl convT) ?_
      refine JL_1 rfl (by exact op_binU ev64 ev64 (add_u64 _ _ _)) ?_
      refine JL_1 rfl (by exact op_fieldPtr (k := 2) (Ev.rfl' rfl) rfl rfl rfl rfl) ?_
      refine JL_1 rfl (op_indexArr (k := 0) (sz := 1) (Ev.rfl' rfl) (Ev.rfl' rfl) rfl rfl idxT (by decide)) ?_
      refine JL_s0 (op_storeN (Ev.rfl' rfl) (Ev.rfl' rfl) cellsT replT nrmT (by rfl) (by rfl) (by rfl)) ?_
      refine JL_nil (JQ_blkSub (b := i2) (As' := tPg.cells (pgK p n 0)) replT (by show SubLs _ _ [_, _, Is (.int .u64 (UV (pinW n))), _, _, _, _, _, _]; rw [e1]; exact subsT) ?_)
      exact JQ_meetP () trivial esubT lessT
    have e1 : pinW n = 0#64 := by unfold pinW; rw [if_neg (by rw [h4]; simp)]
    refine JC_skip (JQ_blkSub (b := i2) (As' := tPg.cells (pgK p n 0)) replT (by show SubLs _ _ [_, _, Is (.int .u64 (UV (pinW n))), _, _, _, _, _, _]; rw [e1]; exact subsT) ?_)
    exact JQ_meetP () trivial esubT lessT
  rintro _ _
  refine JC_seq (JC_seq ?_)
  refine JC_region (JL_1 rfl (by exact op_fieldPtr (k := 4) (Ev.rfl' rfl) rfl rfl rfl rfl) ?_)
  refine JL_1 rfl (by exact op_loadPtrsN (n := 12) (Ev.rfl' rfl) memT (by rfl) (by rfl) (by rfl) (by rfl) nrmT) ?_
  refine JL_1 rfl (op_move rfl) (JL_nil ?_)
  refine JQ_then (JC_block ?_)
  refine JC_loopP (fun k : Nat => k ≤ 4 ∧ okR n k = true) (fun k => [(2, Is (.pointer (some ⟨i2, 0, none⟩))), (4, Is (.pointer (some ⟨i4, 0, none⟩))), (55, IsAgg ((tNd.cells n).drop 4)), (56, Is (.int .i64 (k : Nat)))]) (fun k => [blk i2 51 (tPg.cells (pgK p n k)), blk i4 51 (tPg.cells Pg.nil)]) (fun k => 4 - k) 0 ⟨Nat.zero_le _, rfl⟩ esubT lessT ?_
  rintro k ⟨hk, hok⟩
  refine JC_seq (JC_region (JL_1 rfl (op_lss (Ev.rfl' rfl) (Ev.rfl' rfl)) (JL_nil ?_)))
  refine JQ_then (JC_seq ?_)
  refine JC_cond (Ev.rfl' rfl) (fun h7 => ?_) (fun h7 => ?_)
  · have hk4 : k = 0 ∨ k = 1 ∨ k = 2 ∨ k = 3 := by have := of_decide_eq_true h7; omega
    clear h7
    rcases hk4 with rfl | rfl | rfl | rfl
    all_goals
      refine JC_skip (JQ_then (JC_seq (JC_block (JC_seq ?_))))
      refine JC_region (JL_1 rfl (op_move rfl) (JL_1 rfl (by first | exact op_indexV (k := 0) (sz := 3) (Ev.rfl' rfl) (Ev.rfl' rfl) rfl rfl rfl rfl (by decide) (by decide) nrmT | exact op_indexV (k := 1) (sz := 3) (Ev.rfl' rfl) (Ev.rfl' rfl) rfl rfl rfl rfl (by decide) (by decide) nrmT | exact op_indexV (k := 2) (sz := 3) (Ev.rfl' rfl) (Ev.rfl' rfl) rfl rfl rfl rfl (by decide) (by decide) nrmT | exact op_indexV (k := 3) (sz := 3) (Ev.rfl' rfl) (Ev.rfl' rfl) rfl rfl rfl rfl (by decide) (by decide) nrmT) ?_))
      (refine JL_n rfl (op_allocN rfl nrmT rfl) ?_; intro i7)
      refine JL_1 rfl (op_assign rfl) (JL_s0 (op_storeN (Ev.rfl' rfl) (Ev.rfl' rfl) cellsT replT nrmT (by rfl) (by rfl) (by rfl)) ?_)
      refine JL_nil ?_
      refine JQ_then (JC_block (JC_seq ?_))
      refine JC_region (JL_1 rfl (by exact op_loadPtrsN (n := 3) (Ev.rfl' rfl) memT (by rfl) (by rfl) (by rfl) (by rfl) nrmT) ?_)
      refine JL_1 rfl (op_buildN (qs := []) rfl rfl rfl rfl trivial (by rfl) nrmT) ?_
      refine JL_1 rfl (by first | exact op_cmpA (vs := Re.cells n.r0) (ws := Re.cells Re.nil) (Ev.rfl' rfl) evS (eqRe_guard _ _ _ n.r0 Re.nil) (eqRe_eql n.r0 Re.nil) | exact op_cmpA (vs := Re.cells n.r1) (ws := Re.cells Re.nil) (Ev.rfl' rfl) evS (eqRe_guard _ _ _ n.r1 Re.nil) (eqRe_eql n.r1 Re.nil) | exact op_cmpA (vs := Re.cells n.r2) (ws := Re.cells Re.nil) (Ev.rfl' rfl) evS (eqRe_guard _ _ _ n.r2 Re.nil) (eqRe_eql n.r2 Re.nil) | exact op_cmpA (vs := Re.cells n.r3) (ws := Re.cells Re.nil) (Ev.rfl' rfl) evS (eqRe_guard _ _ _ n.r3 Re.nil) (eqRe_eql n.r3 Re.nil)) ?_
      refine JL_1 rfl (op_assign rfl) (JL_nil (JQ_then ?_))
      refine JC_cond (Ev.rfl' rfl) (fun h10 => ?_) (fun h10 => ?_)
      · have hz := nilB h10
        refine JC_skip (JQ_block (JQ_block (JQ_then ?_)))
        refine JC_region (JL_1 rfl (op_add (Ev.rfl' rfl) (Ev.rfl' rfl) wrapT) ?_)
        refine JL_1 rfl (op_move rfl) (JL_nil ?_)
        first | (refine JQ_blkSub (b := i2) (As' := tPg.cells (pgK p n 1)) replT (by rw [pgK_nil0 hz]; exact SubLs.rfl') ?_; exact JQ_roundP 1 ⟨by omega, okR_add0 hok (rwB_nil hz)⟩ (by omega) esubT lessT) | (refine JQ_blkSub (b := i2) (As' := tPg.cells (pgK p n 2)) replT (by rw [pgK_nil1 hz]; exact SubLs.rfl') ?_; exact JQ_roundP 2 ⟨by omega, okR_add1 hok (rwB_nil hz)⟩ (by omega) esubT lessT) | (refine JQ_blkSub (b := i2) (As' := tPg.cells (pgK p n 3)) replT (by rw [pgK_nil2 hz]; exact SubLs.rfl') ?_; exact JQ_roundP 3 ⟨by omega, okR_add2 hok (rwB_nil hz)⟩ (by omega) esubT lessT) | (refine JQ_blkSub (b := i2) (As' := tPg.cells (pgK p n 4)) replT (by rw [pgK_nil3 hz]; exact SubLs.rfl') ?_; exact JQ_roundP 4 ⟨by omega, okR_add3 hok (rwB_nil hz)⟩ (by omega) esubT lessT)
      have hz := nnilB h10
      refine JC_seq (JC_region (JL_1 rfl (by exact op_fieldPtr (k := 0) (Ev.rfl' rfl) rfl rfl rfl rfl) ?_))
      refine JL_1 rfl (by exact op_loadPtrsN (n := 2) (Ev.rfl' rfl) memT (by rfl) (by rfl) (by rfl) (by rfl) nrmT) ?_
      refine JL_1 rfl (op_call Tryz.call45 (ValidP_ok _) ⟨evS, trivial⟩) ?_
      refine JL_1 rfl (op_assign rfl) (JL_nil (JQ_then ?_))
      refine JC_cond (Ev.rfl' rfl) (fun h11 => ?_) (fun h11 => ?_)
      · refine JC_dr rfl (by kernel_rfl) ?_
        refine JD_phase [0, 0, 1, 1, 1, 0, 1, 1, 0, 0, 0, 1, 1, 2] (by kernel_rfl) (by kernel_rfl) ?_
        refine PW_0 (op_move rfl) (PW_0 (op_add (Ev.rfl' rfl) (Ev.rfl' rfl) wrapT) ?_)
        refine PW_1 (by exact op_fieldPtr (k := 0) (Ev.rfl' rfl) rfl rfl rfl rfl) ?_
        refine PW_1 (by exact op_loadPtrsN (n := 2) (Ev.rfl' rfl) memT (by rfl) (by rfl) (by rfl) (by rfl) nrmT) ?_
        refine PW_1 (op_call Tryz.call49 (Pack_ok _) ⟨evS, trivial⟩) ?_
        refine PW_0 (op_conv (Ev.rfl' rfl) rfl rfl convT) ?_
        refine PW_1 (by exact op_fieldPtr (k := 2) (Ev.rfl' rfl) rfl rfl rfl rfl) ?_
        refine PW_1 (by exact op_loadPtr (Ev.rfl' rfl) memT (by rfl) (by rfl) (by rfl)) ?_
        refine PW_0 (op_conv (Ev.rfl' rfl) rfl rfl convT) ?_
        refine PW_0 (by exact op_shlU (k := 32) ev64 (Ev.rfl' rfl) (by omega) idxT) ?_
        refine PW_0 (by exact op_bits ev64 ev64 (by simp) (or_u64 _ _)) ?_
        refine PW_1 (by exact op_fieldPtr (k := 2) (Ev.rfl' rfl) rfl rfl rfl rfl) ?_
        refine PW_1 (by first | exact op_indexArr (k := 3) (sz := 1) (Ev.rfl' rfl) (Ev.rfl' rfl) rfl rfl (by decide) (by decide) | exact op_indexArr (k := 4) (sz := 1) (Ev.rfl' rfl) (Ev.rfl' rfl) rfl rfl (by decide) (by decide) | exact op_indexArr (k := 5) (sz := 1) (Ev.rfl' rfl) (Ev.rfl' rfl) rfl rfl (by decide) (by decide) | exact op_indexArr (k := 6) (sz := 1) (Ev.rfl' rfl) (Ev.rfl' rfl) rfl rfl (by decide) (by decide)) ?_
        refine PW_2 (op_storeN (Ev.rfl' rfl) (Ev.rfl' rfl) cellsT replT nrmT (by rfl) (by rfl) (by rfl)) ?_
        refine PW_end (JD_end ?_)
        refine JQ_block (JQ_block (JQ_then ?_))
        refine JC_region (JL_1 rfl (op_add (Ev.rfl' rfl) (Ev.rfl' rfl) wrapT) ?_)
        refine JL_1 rfl (op_move rfl) (JL_nil ?_)
        first | (refine JQ_blkSub (b := i2) (As' := tPg.cells (pgK p n 1)) replT (by rw [pgK_re0 hz]; exact subsT) ?_; exact JQ_roundP 1 ⟨by omega, okR_add0 hok (by rw [rwB_re hz]; exact h11)⟩ (by omega) esubT lessT) | (refine JQ_blkSub (b := i2) (As' := tPg.cells (pgK p n 2)) replT (by rw [pgK_re1 hz]; exact subsT) ?_; exact JQ_roundP 2 ⟨by omega, okR_add1 hok (by rw [rwB_re hz]; exact h11)⟩ (by omega) esubT lessT) | (refine JQ_blkSub (b := i2) (As' := tPg.cells (pgK p n 3)) replT (by rw [pgK_re2 hz]; exact subsT) ?_; exact JQ_roundP 3 ⟨by omega, okR_add2 hok (by rw [rwB_re hz]; exact h11)⟩ (by omega) esubT lessT) | (refine JQ_blkSub (b := i2) (As' := tPg.cells (pgK p n 4)) replT (by rw [pgK_re3 hz]; exact subsT) ?_; exact JQ_roundP 4 ⟨by omega, okR_add3 hok (by rw [rwB_re hz]; exact h11)⟩ (by omega) esubT lessT)
      have hbad : okR n 4 = false := by first | exact okR_bad0 (by rw [rwB_re hz]; exact h11) | exact okR_bad1 (by rw [rwB_re hz]; exact h11) | exact okR_bad2 (by rw [rwB_re hz]; exact h11) | exact okR_bad3 (by rw [rwB_re hz]; exact h11)
      rw [writeN_x hb hbad]
      refine JC_seq (JC_region (JL_1 rfl (op_buildN (qs := []) rfl rfl rfl rfl trivial (by rfl) nrmT) ?_))
      refine JL_s0 (op_storeN (Ev.rfl' rfl) (Ev.rfl' rfl) cellsT replT nrmT (by rfl) (by rfl) (by rfl)) ?_
      refine JL_1 rfl (op_assign rfl) (JL_nil ?_)
      refine JQ_then (JC_ret (JQ_block_ret (JQ_block_ret (JQ_then_ret (JQ_then_ret (JQ_block_ret (JQ_then_ret ?_)))))))
      exact JQ_ret (Bs := [IsPg Pg.nil, Is (.int .i64 1)]) Tryz.results33 ⟨⟨_, _, _, _, rfl, memT, rfl, .inr ⟨rfl, _, rfl, rfl, subT⟩⟩, ⟨⟨_, rfl, subT⟩, trivial⟩⟩ () SubL.rfl' (List.nil_sublist _)
  have hk4 : k = 4 := by have := of_decide_eq_false h7; omega
  subst hk4
  rw [writeN_0 hb hok]
  refine JC_exit (JQ_then_exit (JQ_then_exit (JQ_hit (JQ_then (JC_seq ?_)))))
  refine JC_region (JL_1 rfl (by exact op_loadPtrsN (n := 9) (Ev.rfl' rfl) memT (by rfl) (by rfl) (by rfl) (by rfl) nrmT) ?_)
  refine JL_s0 (op_storeN (Ev.rfl' rfl) (Ev.rfl' rfl) cellsT replT nrmT (by rfl) (by rfl) (by rfl)) ?_
  refine JL_1 rfl (op_assign rfl) (JL_nil ?_)
  refine JQ_then (JC_ret ?_)
  exact JQ_ret (Bs := [IsPg (pgK p n 4), Is (.int .i64 0)]) Tryz.results33 ⟨⟨_, _, _, _, rfl, memT, rfl, .inr ⟨rfl, _, rfl, rfl, subT⟩⟩, ⟨⟨_, rfl, subT⟩, trivial⟩⟩ () SubL.rfl' (List.nil_sublist _)
end Go.Proofs.YtfkmbdpnjcgimaaGreat

/- Contracts: the last known page of a line; what is missing; the segments of a bitmap; known node pages and header pages. Own work. -/
namespace Go.Proofs.YtfkmbdpnjcgimaaGreat
open Go.RowKit
set_option linter.unusedVariables false
set_option linter.unusedSimpArgs false
set_option maxRecDepth 100000
/-! ### A constant string's byte -/
theorem op_indexStr {P : Program} {c : Ctx} {A : Nat → Option VP} {L : List Item} {d : Option Tmp} {ty : TypeId} {pos : String} {af : Array Edge} {g : Option (Nat × Bool)} {t : TypeId} {s : ByteArray} {y : Operand} {q : IntKind} {j : Int} {k : Nat} {b : UInt8} (hu : P.underlying t = some .string) (hy : Ev A L y (Is (.int q j))) (hj : j = k) (hb : s[k]? = some b) :
    OpP P c ⟨d, .index t (.const (.string s)) y, ty, pos, af, g⟩ A L (Is (.int .u8 b.toNat)) :=
  opp fun φ a w hm he => by
    have h1 : a.eval y = .int q j := he y (by simp [Op.operands]) _ hy
    refine ⟨_, ?_, rfl⟩
    have h2 : a.eval (.const (.string s)) = .string s := rfl
    subst hj
    simp only [execOp, h1, h2]
    refine run_val ?_
    simp only [Instr.index, asIntOf, Sem.run_bind, Sem.run_pure, Result.andThen_ok, run_underlying hu]
    rw [if_pos (by omega)]
    simp only [Int.toNat_natCast, hb]
    rfl
-- math/bits.Len64: function 91
theorem Len64_0 : FnP Tryz.prog 91 [Is (.int .u64 0)] (Is (.int .i64 0)) := by
  refine FnP.enter Tryz.func91 Tryz.ntmps91 rfl rfl ?_
  intro c hX
  refine JC_seq (JC_region (JL_1 rfl (op_assign rfl) (JL_nil ?_)))
  refine JQ_then (JC_seq (JC_seq ?_))
  refine JC_region (JL_1 rfl (op_move rfl) (JL_1 rfl (op_geq (Ev.rfl' rfl) (Ev.rfl' rfl)) (JL_nil (JQ_then ?_))))
  refine JC_cond (Ev.rfl' rfl) (fun h1 => ?_) (fun h1 => ?_)
  · exact absurd (of_decide_eq_true h1) (by omega)
  refine JC_skip (JQ_then (JC_seq (JC_seq ?_)))
  refine JC_region (JL_1 rfl (op_move rfl) (JL_1 rfl (op_geq (Ev.rfl' rfl) (Ev.rfl' rfl)) (JL_nil (JQ_then ?_))))
  refine JC_cond (Ev.rfl' rfl) (fun h4 => ?_) (fun h4 => ?_)
  · exact absurd (of_decide_eq_true h4) (by omega)
  refine JC_skip (JQ_then (JC_seq (JC_seq ?_)))
  refine JC_region (JL_1 rfl (op_move rfl) (JL_1 rfl (op_geq (Ev.rfl' rfl) (Ev.rfl' rfl)) (JL_nil (JQ_then ?_))))
  refine JC_cond (Ev.rfl' rfl) (fun h7 => ?_) (fun h7 => ?_)
  · exact absurd (of_decide_eq_true h7) (by omega)
  refine JC_skip (JQ_then (JC_seq ?_))
  refine JC_region (JL_1 rfl (op_move rfl) (JL_1 rfl (op_move rfl) (JL_1 rfl (op_conv (Ev.rfl' rfl) rfl rfl convT) ?_)))
  refine JL_1 rfl (op_indexStr (k := 0) (b := 0) rfl (Ev.rfl' rfl) rfl rfl) (JL_1 rfl (op_conv (Ev.rfl' rfl) rfl rfl convT) ?_)
  refine JL_1 rfl (op_add (Ev.rfl' rfl) (Ev.rfl' rfl) wrapT) ?_
  refine JL_1 rfl (op_assign rfl) (JL_nil ?_)
  refine JQ_then (JC_ret ?_)
  refine JQ_ret1 Tryz.results91 rfl () (SubL.eq ?_) (List.nil_sublist _)
  rfl
-- math/bits.Len: function 66
theorem Len_0 : FnP Tryz.prog 66 [Is (.int .u64 0)] (Is (.int .i64 0)) := by
  refine FnP.enter Tryz.func66 Tryz.ntmps66 rfl rfl ?_
  intro c hX
  refine JC_seq (JC_region (JL_1 rfl (op_assign rfl) (JL_nil ?_)))
  refine JQ_then (JC_seq ?_)
  refine JC_cond (Ev.rfl' rfl) (fun h0 => ?_) (fun h0 => ?_)
  · exact absurd h0 (by simp)
  refine JC_skip (JQ_then (JC_seq ?_))
  refine JC_region (JL_1 rfl (op_move rfl) (JL_1 rfl (op_call Tryz.call91 (Len64_0) ⟨evS, trivial⟩) ?_))
  refine JL_1 rfl (op_assign rfl) (JL_nil ?_)
  refine JQ_then (JC_ret ?_)
  refine JQ_ret1 Tryz.results66 rfl () (SubL.eq ?_) (List.nil_sublist _)
  rfl
-- math/bits.Len64: function 91
theorem Len64_1 : FnP Tryz.prog 91 [Is (.int .u64 1)] (Is (.int .i64 1)) := by
  refine FnP.enter Tryz.func91 Tryz.ntmps91 rfl rfl ?_
  intro c hX
  refine JC_seq (JC_region (JL_1 rfl (op_assign rfl) (JL_nil ?_)))
  refine JQ_then (JC_seq (JC_seq ?_))
  refine JC_region (JL_1 rfl (op_move rfl) (JL_1 rfl (op_geq (Ev.rfl' rfl) (Ev.rfl' rfl)) (JL_nil (JQ_then ?_))))
  refine JC_cond (Ev.rfl' rfl) (fun h1 => ?_) (fun h1 => ?_)
  · exact absurd (of_decide_eq_true h1) (by omega)
  refine JC_skip (JQ_then (JC_seq (JC_seq ?_)))
  refine JC_region (JL_1 rfl (op_move rfl) (JL_1 rfl (op_geq (Ev.rfl' rfl) (Ev.rfl' rfl)) (JL_nil (JQ_then ?_))))
  refine JC_cond (Ev.rfl' rfl) (fun h4 => ?_) (fun h4 => ?_)
  · exact absurd (of_decide_eq_true h4) (by omega)
  refine JC_skip (JQ_then (JC_seq (JC_seq ?_)))
  refine JC_region (JL_1 rfl (op_move rfl) (JL_1 rfl (op_geq (Ev.rfl' rfl) (Ev.rfl' rfl)) (JL_nil (JQ_then ?_))))
  refine JC_cond (Ev.rfl' rfl) (fun h7 => ?_) (fun h7 => ?_)
  · exact absurd (of_decide_eq_true h7) (by omega)
  refine JC_skip (JQ_then (JC_seq ?_))
  refine JC_region (JL_1 rfl (op_move rfl) (JL_1 rfl (op_move rfl) (JL_1 rfl (op_conv (Ev.rfl' rfl) rfl rfl convT) ?_)))
  refine JL_1 rfl (op_indexStr (k := 1) (b := 1) rfl (Ev.rfl' rfl) rfl rfl) (JL_1 rfl (op_conv (Ev.rfl' rfl) rfl rfl convT) ?_)
  refine JL_1 rfl (op_add (Ev.rfl' rfl) (Ev.rfl' rfl) wrapT) ?_
  refine JL_1 rfl (op_assign rfl) (JL_nil ?_)
  refine JQ_then (JC_ret ?_)
  refine JQ_ret1 Tryz.results91 rfl () (SubL.eq ?_) (List.nil_sublist _)
  rfl
-- math/bits.Len: function 66
theorem Len_1 : FnP Tryz.prog 66 [Is (.int .u64 1)] (Is (.int .i64 1)) := by
  refine FnP.enter Tryz.func66 Tryz.ntmps66 rfl rfl ?_
  intro c hX
  refine JC_seq (JC_region (JL_1 rfl (op_assign rfl) (JL_nil ?_)))
  refine JQ_then (JC_seq ?_)
  refine JC_cond (Ev.rfl' rfl) (fun h0 => ?_) (fun h0 => ?_)
  · exact absurd h0 (by simp)
  refine JC_skip (JQ_then (JC_seq ?_))
  refine JC_region (JL_1 rfl (op_move rfl) (JL_1 rfl (op_call Tryz.call91 (Len64_1) ⟨evS, trivial⟩) ?_))
  refine JL_1 rfl (op_assign rfl) (JL_nil ?_)
  refine JQ_then (JC_ret ?_)
  refine JQ_ret1 Tryz.results66 rfl () (SubL.eq ?_) (List.nil_sublist _)
  rfl
-- slices.insertionSortOrdered[int]: function 81
theorem insI_ok (n : Nat) (i : Option Addr × Nat) (hn : n ≤ 1) : FnP Tryz.prog 81 [Is (slV n i), Is (.int .i64 0), Is (.int .i64 (n : Nat))] (IsTup []) := by
  refine FnP.enter Tryz.func81 Tryz.ntmps81 rfl rfl ?_
  intro c hX
  refine JC_seq (JC_region (JL_1 rfl (op_move rfl) (JL_1 rfl (op_add (Ev.rfl' rfl) (Ev.rfl' rfl) wrapT) ?_)))
  refine JL_1 rfl (op_assign rfl) (JL_nil ?_)
  refine JQ_then (JC_block ?_)
  refine JC_loopP (fun _ : Unit => True) (fun _ => [(2, Is (.int .i64 (n : Nat))), (6, Is (.int .i64 1))]) (fun _ => []) (fun _ => 0) () trivial esubT lessT ?_
  rintro _ _
  refine JC_seq (JC_seq ?_)
  refine JC_region (JL_1 rfl (op_move rfl) (JL_1 rfl (op_move rfl) (JL_1 rfl (op_lss (Ev.rfl' rfl) (Ev.rfl' rfl)) (JL_nil (JQ_then ?_)))))
  refine JC_cond (Ev.rfl' rfl) (fun h1 => ?_) (fun h1 => ?_)
  · exact absurd (of_decide_eq_true h1) (by omega)
  refine JC_exit (JQ_then_exit (JQ_then_exit (JQ_hit (JQ_end ?_))))
  exact JQ_retP (Bs := []) Tryz.results81 trivial () SubL.rfl' lessT
-- slices.pdqsortOrdered[int]: function 65
theorem pdqI_ok (n : Nat) (i : Option Addr × Nat) (hn : n ≤ 1) : FnP Tryz.prog 65 [Is (slV n i), Is (.int .i64 0), Is (.int .i64 (n : Nat)), Is (.int .i64 (n : Nat))] (IsTup []) := by
  refine FnP.enter Tryz.func65 Tryz.ntmps65 rfl rfl ?_
  intro c hX
  refine JC_seq (JC_region (JL_1 rfl (op_assign rfl) (JL_nil ?_)))
  refine JQ_then (JC_seq ?_)
  refine JC_region (JL_1 rfl (op_assign rfl) (JL_nil ?_))
  refine JQ_then (JC_block ?_)
  refine JC_loopP (fun _ : Unit => True) (fun _ => [(0, Is (slV n i)), (1, Is (.int .i64 0)), (2, Is (.int .i64 (n : Nat)))]) (fun _ => []) (fun _ => 0) () trivial esubT lessT ?_
  rintro _ _
  refine JC_block (JC_seq ?_)
  refine JC_region (JL_1 rfl (op_move rfl) (JL_1 rfl (op_move rfl) (JL_1 rfl (op_sub (Ev.rfl' rfl) (Ev.rfl' rfl) wrapT) ?_)))
  refine JL_1 rfl (op_assign rfl) (JL_nil ?_)
  refine JQ_then (JC_seq (JC_seq ?_))
  refine JC_region (JL_1 rfl (op_move rfl) (JL_1 rfl (op_leq (Ev.rfl' rfl) (Ev.rfl' rfl)) (JL_nil (JQ_then ?_))))
  refine JC_cond (Ev.rfl' rfl) (fun h3 => ?_) (fun h3 => ?_)
  · refine JC_seq (JC_region (JL_1 rfl (op_move rfl) (JL_1 rfl (op_move rfl) (JL_1 rfl (op_move rfl) (JL_1 rfl (op_call Tryz.call81 (insI_ok n i hn) ⟨evS, ⟨evS, ⟨evS, trivial⟩⟩⟩) ?_)))))
    refine JL_nil ?_
    refine JQ_then (JC_ret (JQ_then_ret (JQ_block_ret (JQ_then_ret (JQ_block_ret ?_)))))
    exact JQ_retP (Bs := []) Tryz.results65 trivial () SubL.rfl' lessT
  exact absurd (of_decide_eq_false h3) (by omega)
-- slices.Sort[[]int,int]: function 46
theorem SortI_0 (i : Option Addr × Nat) : FnP Tryz.prog 46 [Is (slV 0 i)] (IsTup []) := by
  refine FnP.enter Tryz.func46 Tryz.ntmps46 rfl rfl ?_
  intro c hX
  refine JC_seq (JC_region (JL_1 rfl (op_move rfl) (JL_1 rfl (by exact op_lenLit (Ev.rfl' rfl) rfl) ?_)))
  refine JL_1 rfl (op_assign rfl) (JL_nil (JQ_then (JC_region (JL_1 rfl (op_move rfl) (JL_1 rfl (op_move rfl) (JL_1 rfl (op_move rfl) (JL_1 rfl (op_conv (Ev.rfl' rfl) rfl rfl rfl) (JL_1 rfl (op_call Tryz.call66 (Len_0) ⟨evS, trivial⟩) ?_))))))))
  refine JL_1 rfl (by ((refine op_call Tryz.call65 (pdqI_ok 0 i ?_) ⟨evS, ⟨evS, ⟨evS, ⟨evS, trivial⟩⟩⟩⟩); all_goals (decide))) ?_
  refine JL_nil (JQ_end ?_)
  exact JQ_retP (Bs := []) Tryz.results46 trivial () SubL.rfl' lessT
-- slices.Sort[[]int,int]: function 46
theorem SortI_1 (i : Option Addr × Nat) : FnP Tryz.prog 46 [Is (slV 1 i)] (IsTup []) := by
  refine FnP.enter Tryz.func46 Tryz.ntmps46 rfl rfl ?_
  intro c hX
  refine JC_seq (JC_region (JL_1 rfl (op_move rfl) (JL_1 rfl (by exact op_lenLit (Ev.rfl' rfl) rfl) ?_)))
  refine JL_1 rfl (op_assign rfl) (JL_nil (JQ_then (JC_region (JL_1 rfl (op_move rfl) (JL_1 rfl (op_move rfl) (JL_1 rfl (op_move rfl) (JL_1 rfl (op_conv (Ev.rfl' rfl) rfl rfl rfl) (JL_1 rfl (op_call Tryz.call66 (Len_1) ⟨evS, trivial⟩) ?_))))))))
  refine JL_1 rfl (by ((refine op_call Tryz.call65 (pdqI_ok 1 i ?_) ⟨evS, ⟨evS, ⟨evS, ⟨evS, trivial⟩⟩⟩⟩); all_goals (decide))) ?_
  refine JL_nil (JQ_end ?_)
  exact JQ_retP (Bs := []) Tryz.results46 trivial () SubL.rfl' lessT
theorem SortI_ok (n : Nat) (i : Option Addr × Nat) (hn : n ≤ 1) : FnP Tryz.prog 46 [Is (slV n i)] (IsTup []) := by
  match n, hn with
  | 0, _ => exact SortI_0 i
  | 1, _ => exact SortI_1 i
-- slices.Compact[[]int,int]: function 47
theorem CompactI_ok (n : Nat) (i : Option Addr × Nat) (hn : n ≤ 1) : FnP Tryz.prog 47 [Is (slV n i)] (Is (slV n i)) := by
  refine FnP.enter Tryz.func47 Tryz.ntmps47 rfl rfl ?_
  intro c hX
  refine JC_seq (JC_region (JL_1 rfl (op_assign rfl) (JL_nil ?_)))
  refine JQ_then (JC_seq (JC_seq ?_))
  refine JC_region (JL_1 rfl (op_move rfl) (JL_1 rfl (by exact op_lenLit (Ev.rfl' rfl) rfl) ?_))
  refine JL_1 rfl (op_lss (Ev.rfl' rfl) (Ev.rfl' rfl)) (JL_nil (JQ_then ?_))
  refine JC_cond (Ev.rfl' rfl) (fun h1 => ?_) (fun h1 => ?_)
  · refine JC_seq (JC_region (JL_1 rfl (op_move rfl) (JL_1 rfl (op_assign rfl) (JL_nil ?_))))
    refine JQ_then (JC_ret (JQ_then_ret ?_))
    exact JQ_retP (Bs := [Is (slV n i)]) Tryz.results47 ⟨⟨_, rfl, subT⟩, trivial⟩ () SubL.rfl' lessT
  exact absurd (of_decide_eq_false h1) (by omega)
/-! ### The last known page -/
def latO (xs : List Pg) (l : Int) : Option Pg := (xs.filter fun p => decide (p.l = l)).getLast?
theorem lat_hit {xs : List Pg} {k : Nat} {l : Int} {p : Pg} (h : xs[k]? = some p) (hl : p.l = l) (hs : ∀ (j : Nat) q, k < j → xs[j]? = some q → q.l ≠ l) : latO xs l = some p := by
  obtain ⟨hk, rfl⟩ := List.getElem?_eq_some_iff.1 h
  have e : xs = xs.take k ++ (xs[k] :: xs.drop (k + 1)) := by rw [List.getElem_cons_drop, List.take_append_drop]
  have e2 : (xs.drop (k + 1)).filter (fun p => decide (p.l = l)) = [] := List.filter_eq_nil_iff.2 fun q hq => by
    obtain ⟨j, hj, rfl⟩ := List.getElem_of_mem hq
    have := hs (k + 1 + j) (xs.drop (k + 1))[j] (by omega) (by rw [← List.getElem?_drop, List.getElem?_eq_getElem hj])
    simpa using this
  unfold latO
  conv => lhs; rw [e]
  rw [List.filter_append, List.filter_cons, e2]
  simp [hl]
theorem lat_none {xs : List Pg} {l : Int} (hs : ∀ (j : Nat) q, xs[j]? = some q → q.l ≠ l) : latO xs l = none := by
  unfold latO
  rw [List.getLast?_eq_none_iff, List.filter_eq_nil_iff]
  intro q hq
  obtain ⟨j, hj, rfl⟩ := List.getElem_of_mem hq
  simpa using hs j _ (List.getElem?_eq_getElem hj)
-- pointer.Latest: function 37
theorem Latest_ok (xs : List Pg) (l : Int) : FnP Tryz.prog 37 [IsSl tPg xs, Is (.int .i64 l)] (IsTup [IsPg ((latO xs l).getD Pg.nil), Is (.bool (latO xs l).isSome)]) := by
  refine FnP.enter Tryz.func37 Tryz.ntmps37 rfl rfl ?_
  intro c hX
  refine JC_len (t := 0) rfl (fun hlen => ?_)
  refine JC_seq (JC_region ?_)
  (refine JL_n rfl (op_allocN rfl nrmT rfl) ?_; intro i4)
  refine JL_1 rfl (op_assign rfl) (JL_nil ?_)
  refine JQ_then (JC_seq (JC_seq ?_))
  refine JC_region (JL_1 rfl (op_move rfl) (JL_1 rfl (by exact op_len (Ev.rfl' rfl) rfl) ?_))
  refine JL_1 rfl (op_sub (Ev.rfl' rfl) (Ev.rfl' rfl) rfl) (JL_1 rfl (op_assign rfl) (JL_nil ?_))
  refine JQ_then (JC_block ?_)
  refine JC_loopP (fun k : Nat => k ≤ xs.length ∧ ∀ (j : Nat) q, k ≤ j → xs[j]? = some q → q.l ≠ l) (fun k => [(0, IsSl tPg xs), (1, Is (.int .i64 l)), (4, Is (.pointer (some ⟨i4, 0, none⟩))), (6, Is (.int .i64 ((k : Int) - 1)))]) (fun _ => [blk i4 51 (tPg.cells Pg.nil)]) (fun k => k) xs.length ⟨Nat.le_refl _, fun j q hj hq => absurd (List.getElem?_eq_some_iff.1 hq).1 (by omega)⟩ ⟨⟨_, rfl, SubL.rfl'⟩, ⟨_, rfl, SubL.rfl'⟩, ⟨_, rfl, SubL.rfl'⟩, ⟨_, rfl, SubL.eq (ieq (wI64 (by omega)))⟩, trivial⟩ lessT ?_
  rintro k ⟨hk, hs⟩
  refine JC_seq (JC_seq ?_)
  refine JC_region (JL_1 rfl (op_move rfl) (JL_1 rfl (op_geq (Ev.rfl' rfl) (Ev.rfl' rfl)) (JL_nil (JQ_then ?_))))
  refine JC_cond (Ev.rfl' rfl) (fun h2 => ?_) (fun h2 => ?_)
  · have h' : 0 < k := by have := of_decide_eq_true h2; omega
    clear h2
    obtain ⟨k, rfl⟩ : ∃ j, k = j + 1 := ⟨k - 1, by omega⟩
    obtain ⟨z, hz⟩ : ∃ z, xs[k]? = some z := ⟨xs[k], List.getElem?_eq_getElem (by omega)⟩
    refine JC_skip (JQ_then (JC_seq (JC_block (JC_seq ?_))))
    refine JC_region (JL_1 rfl (op_move rfl) (JL_1 rfl (op_move rfl) (JL_1 rfl (by exact op_index (j := _) (Ev.rfl' rfl) (Ev.rfl' rfl) rfl rfl (by omega) hz) ?_)))
    refine JL_1 rfl (by exact op_fieldRefN (k := 0) (Ev.rfl' rfl) rfl rfl rfl rfl nrmT) ?_
    refine JL_1 rfl (by exact op_loadRef (Ev.rfl' rfl) rfl rfl rfl) ?_
    refine JL_1 rfl (op_move rfl) (JL_1 rfl (op_eql (Ev.rfl' rfl) (Ev.rfl' rfl)) (JL_nil (JQ_then ?_)))
    refine JC_cond (Ev.rfl' rfl) (fun h4 => ?_) (fun h4 => ?_)
    · have hzl : z.l = l := by simpa using h4
      clear h4
      have e : latO xs l = some z := lat_hit hz hzl fun j q hj hq => hs j q (by omega) hq
      refine JC_seq (JC_region (JL_1 rfl (op_move rfl) (JL_1 rfl (op_move rfl) (JL_1 rfl (by exact op_index (j := _) (Ev.rfl' rfl) (Ev.rfl' rfl) rfl rfl (by omega) hz) ?_))))
      refine JL_1 rfl (by exact op_loadRefsN (n := 9) (Ev.rfl' rfl) rfl rfl rfl (by rfl) nrmT) ?_
      refine JL_s0 (op_storeN (Ev.rfl' rfl) (Ev.rfl' rfl) cellsT replT nrmT (by rfl) (by rfl) (by rfl)) ?_
      refine JL_1 rfl (op_assign rfl) (JL_nil ?_)
      refine JQ_then (JC_ret (JQ_block_ret (JQ_then_ret (JQ_then_ret (JQ_block_ret (JQ_then_ret ?_))))))
      exact JQ_ret (Bs := [IsPg z, Is (.bool true)]) Tryz.results37 ⟨⟨_, _, _, _, rfl, memT, rfl, .inr ⟨rfl, _, rfl, rfl, subT⟩⟩, ⟨⟨_, rfl, subT⟩, trivial⟩⟩ () (SubL.eq (by rw [e]; rfl)) (List.nil_sublist _)
    have hzl : ¬ z.l = l := by simpa using h4
    clear h4
    refine JC_skip (JQ_block (JQ_then ?_))
    refine JC_region (JL_1 rfl (op_move rfl) (JL_1 rfl (op_sub (Ev.rfl' rfl) (Ev.rfl' rfl) rfl) (JL_1 rfl (op_assign rfl) (JL_nil ?_))))
    exact JQ_roundP k ⟨by omega, fun j q hj hq => by
      by_cases hjk : j = k
      · subst hjk; rw [hz] at hq; cases hq; exact hzl
      · exact hs j q (by omega) hq⟩ (by omega) ⟨⟨_, rfl, SubL.rfl'⟩, ⟨_, rfl, SubL.rfl'⟩, ⟨_, rfl, SubL.rfl'⟩, ⟨_, rfl, SubL.eq (ieq (by rw [wI64 (by omega)]; omega))⟩, trivial⟩ lessT
  have h' : k = 0 := by have := of_decide_eq_false h2; omega
  subst h'
  clear h2
  have e : latO xs l = none := lat_none fun j q hq => hs j q (Nat.zero_le _) hq
  refine JC_exit (JQ_then_exit (JQ_then_exit (JQ_hit (JQ_then (JC_seq ?_)))))
  refine JC_region (JL_1 rfl (op_buildN (qs := []) rfl rfl rfl rfl trivial (by rfl) nrmT) ?_)
  refine JL_s0 (op_storeN (Ev.rfl' rfl) (Ev.rfl' rfl) cellsT replT nrmT (by rfl) (by rfl) (by rfl)) ?_
  refine JL_1 rfl (op_assign rfl) (JL_nil ?_)
  refine JQ_then (JC_ret ?_)
  exact JQ_ret (Bs := [IsPg Pg.nil, Is (.bool false)]) Tryz.results37 ⟨⟨_, _, _, _, rfl, memT, rfl, .inr ⟨rfl, _, rfl, rfl, subT⟩⟩, ⟨⟨_, rfl, subT⟩, trivial⟩⟩ () (SubL.eq (by rw [e]; rfl)) (List.nil_sublist _)
-- pointer.Locked: function 39
theorem Locked_ok (p : Pg) : FnP Tryz.prog 39 [IsPg p] (Is (.bool (UV (p.h &&& 255#64) != 0))) := by
  refine FnP.enter Tryz.func39 Tryz.ntmps39 rfl rfl ?_
  intro c hX
  refine JC_seq (JC_region ?_)
  (refine JL_n rfl (op_box (Ev.rfl' rfl) cellsT) ?_; intro i1)
  refine JL_1 rfl (op_assign rfl) (JL_nil ?_)
  refine JQ_then (JC_seq ?_)
  refine JC_region (JL_1 rfl (by exact op_fieldPtr (k := 1) (Ev.rfl' rfl) rfl rfl rfl rfl) ?_)
  refine JL_1 rfl (by exact op_loadPtr (Ev.rfl' rfl) memT (by rfl) (by rfl) (by rfl)) ?_
  refine JL_1 rfl (by exact op_bits ev64 ev64 (by simp) (and_u64 _ _)) ?_
  refine JL_1 rfl (op_neq (Ev.rfl' rfl) (Ev.rfl' rfl)) (JL_1 rfl (op_assign rfl) (JL_nil ?_))
  refine JQ_then (JC_ret ?_)
  refine JQ_ret1 Tryz.results39 rfl () (SubL.eq ?_) (List.nil_sublist _)
  rfl
/-! ### What is missing -/
def missV (ks : List Pg) (ls : List Int) : List Int := ls.filter fun l => (latO ks l).isNone
theorem miss_take {ks : List Pg} {ls : List Int} {k : Nat} {l : Int} (h : ls[k]? = some l) : missV ks (ls.take (k + 1)) = if (latO ks l).isNone = true then missV ks (ls.take k) ++ [l] else missV ks (ls.take k) := by
  unfold missV
  rw [List.take_add_one, h, List.filter_append]
  by_cases g : (latO ks l).isNone = true
  · rw [if_pos g]; simp [g]
  · rw [if_neg g]; simp [g]
-- segment.missing: function 25
theorem missing_ok (ks : List Pg) (ls : List Int) (hn : (missV ks ls).length ≤ 1) : FnP Tryz.prog 25 [IsSl tPg ks, IsSl tI64 ls] (IsSl tI64 (missV ks ls)) := by
  refine FnP.enter Tryz.func25 Tryz.ntmps25 rfl rfl ?_
  intro c hX
  refine JC_len (t := 1) rfl (fun hlen => ?_)
  refine JC_seq (JC_region (JL_1 rfl (op_assign rfl) (JL_nil ?_)))
  refine JQ_then (JC_seq ?_)
  refine JC_region (JL_1 rfl (op_assign rfl) (JL_nil ?_))
  refine JQ_then (JC_seq (JC_seq ?_))
  refine JC_buf0 3 tI64 (JC_region (JL_1 rfl (op_move rfl) (JL_1 rfl (by exact op_len (Ev.rfl' rfl) rfl) ?_)))
  refine JL_1 rfl (op_move rfl) (JL_nil ?_)
  refine JQ_then (JC_block ?_)
  refine JC_loopP (fun z : Nat × (Option Addr × Nat) => z.1 ≤ ls.length) (fun z => [(0, IsSl tPg ks), (1, IsSl tI64 ls), (5, Is (slV (missV ks (ls.take z.1)).length z.2)), (10, IsSl tI64 ls), (11, Is (.int .i64 (ls.length : Nat))), (12, Is (.int .i64 (z.1 : Nat)))]) (fun z => [buf (slV (missV ks (ls.take z.1)).length z.2) 3 tI64 (missV ks (ls.take z.1))]) (fun z => ls.length - z.1) (0, (none, 0)) (Nat.zero_le _) esubT lessT ?_
  rintro ⟨k, s⟩ hk
  dsimp only at hk ⊢
  refine JC_seq (JC_region (JL_1 rfl (op_lss (Ev.rfl' rfl) (Ev.rfl' rfl)) (JL_nil ?_)))
  refine JQ_then (JC_seq ?_)
  refine JC_cond (Ev.rfl' rfl) (fun h3 => ?_) (fun h3 => ?_)
  · have hlt : k < ls.length := by have := of_decide_eq_true h3; omega
    clear h3
    obtain ⟨l, hz⟩ : ∃ z, ls[k]? = some z := ⟨ls[k], List.getElem?_eq_getElem hlt⟩
    have hmt := miss_take (ks := ks) hz
    have hml : (missV ks (ls.take k)).length ≤ (missV ks ls).length := ((List.take_sublist _ _).filter _).length_le
    refine JC_skip (JQ_then (JC_seq (JC_block (JC_seq ?_))))
    refine JC_region (JL_1 rfl (by exact op_index (j := _) (Ev.rfl' rfl) (Ev.rfl' rfl) rfl rfl (by rfl) hz) ?_)
    refine JL_1 rfl (by exact op_loadRef (Ev.rfl' rfl) rfl rfl rfl) ?_
    refine JL_1 rfl (op_assign rfl) (JL_nil ?_)
    refine JQ_then (JC_seq ?_)
    refine JC_region (JL_1 rfl (op_move rfl) (JL_1 rfl (op_move rfl) (JL_1 rfl (op_call Tryz.call37 (Latest_ok _ _) ⟨evS, ⟨evS, trivial⟩⟩) ?_)))
    refine JL_1 rfl (op_move rfl) (JL_1 rfl (op_extract (Ev.rfl' rfl) rfl) (JL_1 rfl (op_extract (Ev.rfl' rfl) rfl) ?_))
    (refine JL_n rfl (op_allocN rfl nrmT rfl) ?_; intro i8)
    refine JL_s0 (op_storeN (Ev.rfl' rfl) (Ev.rfl' rfl) cellsT replT nrmT (by rfl) (by rfl) (by rfl)) ?_
    refine JL_1 rfl (op_assign rfl) (JL_nil ?_)
    refine JQ_then (JC_seq ?_)
    refine JC_region (JL_1 rfl (op_move rfl) (JL_1 rfl (op_not (Ev.rfl' rfl)) (JL_nil (JQ_then ?_))))
    refine JC_cond (Ev.rfl' rfl) (fun h6 => ?_) (fun h6 => ?_)
    · have g : (latO ks l).isNone = true := by revert h6; cases latO ks l <;> simp
      clear h6
      rw [if_pos g] at hmt
      refine JC_region (JL_1 rfl (op_move rfl) (JL_1 rfl (op_move rfl) (JL_1 rfl (op_buildSlice (size := 1) (qs := [(0, _)]) rfl rfl rfl ⟨⟨rfl, _, (Ev.rfl' rfl), cellsT⟩, trivial⟩ (by rfl) (by rfl)) ?_)))
      (refine JL_s rfl (op_app (Ev.rfl' rfl) (fun _ => replT) (by exact Ev.sub rfl (by exact SubL.row (xs := [l]) (by rfl) (by rfl) subsT)) (by exact appT rfl rfl rfl) lenT) ?_; intro i27)
      refine JL_1 rfl (op_assign rfl) (JL_nil ?_)
      refine JQ_block (JQ_then ?_)
      refine JC_region (JL_1 rfl (op_add (Ev.rfl' rfl) (Ev.rfl' rfl) wrapT) ?_)
      refine JL_1 rfl (op_move rfl) (JL_nil ?_)
      rw [← hmt]
      exact JQ_roundP (k + 1, i27) (by dsimp only; omega) (by dsimp only; omega) esubT lessT
    have g : ¬ (latO ks l).isNone = true := by revert h6; cases latO ks l <;> simp
    clear h6
    rw [if_neg g] at hmt
    refine JC_skip (JQ_block (JQ_then ?_))
    refine JC_region (JL_1 rfl (op_add (Ev.rfl' rfl) (Ev.rfl' rfl) wrapT) ?_)
    refine JL_1 rfl (op_move rfl) (JL_nil ?_)
    rw [← hmt]
    exact JQ_roundP (k + 1, s) (by dsimp only; omega) (by dsimp only; omega) esubT lessT
  have hke : k = ls.length := by have := of_decide_eq_false h3; omega
  subst hke
  clear h3
  rw [List.take_length]
  refine JC_exit (JQ_then_exit (JQ_then_exit (JQ_hit (JQ_then (JC_seq ?_)))))
  refine JC_region (JL_1 rfl (op_move rfl) (JL_1 rfl (op_call Tryz.call46 (SortI_ok _ _ hn) ⟨evS, trivial⟩) ?_))
  refine JL_nil ?_
  refine JQ_then (JC_seq ?_)
  refine JC_region (JL_1 rfl (op_move rfl) (JL_1 rfl (op_call Tryz.call47 (CompactI_ok _ _ hn) ⟨evS, trivial⟩) ?_))
  refine JL_1 rfl (op_assign rfl) (JL_nil ?_)
  refine JQ_then (JC_ret ?_)
  refine JQ_freeze hX replT ?_
  exact JQ_ret (Bs := [IsSl tI64 (missV ks ls)]) Tryz.results25 ⟨⟨_, rfl, subT⟩, trivial⟩ () SubL.rfl' (List.nil_sublist _)
end Go.Proofs.YtfkmbdpnjcgimaaGreat

/- Contracts: the segments of a bitmap; known node pages and header pages; segments without an owner. Own work. -/
namespace Go.Proofs.YtfkmbdpnjcgimaaGreat
open Go.RowKit
set_option linter.unusedVariables false
set_option linter.unusedSimpArgs false
set_option maxRecDepth 100000
def bitB (bm : BitVec 32) (s : Nat) : Bool := UV ((bm >>> s) &&& 1#32) == 1
def ownV (bm : BitVec 32) : Nat → List Int
  | 0 => []
  | n + 1 => if bitB bm n = true then ownV bm n ++ [(n : Int)] else ownV bm n
theorem ownV_len (bm : BitVec 32) : ∀ n : Nat, (ownV bm n).length ≤ n
  | 0 => Nat.le_refl _
  | n + 1 => by
    have := ownV_len bm n
    unfold ownV
    split
    · rw [List.length_append, List.length_singleton]; omega
    · omega
-- segment.owned: function 29
theorem owned_ok (bm : BitVec 32) (n : Nat) (hn : n ≤ 9) : FnP Tryz.prog 29 [Is (.int .u32 (UV bm)), Is (.int .i64 (n : Nat))] (IsSl tI64 (ownV bm n)) := by
  refine FnP.enter Tryz.func29 Tryz.ntmps29 rfl rfl ?_
  intro c hX
  refine JC_seq (JC_region (JL_1 rfl (op_assign rfl) (JL_nil ?_)))
  refine JQ_then (JC_seq ?_)
  refine JC_region (JL_1 rfl (op_assign rfl) (JL_nil ?_))
  refine JQ_then (JC_seq (JC_seq ?_))
  refine JC_buf0 3 tI64 (JC_region (JL_1 rfl (op_assign rfl) (JL_nil ?_)))
  refine JQ_then (JC_block ?_)
  refine JC_loopP (fun z : Nat × (Option Addr × Nat) => z.1 ≤ n) (fun z => [(0, Is (.int .u32 (UV bm))), (1, Is (.int .i64 (n : Nat))), (5, Is (slV (ownV bm z.1).length z.2)), (6, Is (.int .i64 (z.1 : Nat)))]) (fun z => [buf (slV (ownV bm z.1).length z.2) 3 tI64 (ownV bm z.1)]) (fun z => n - z.1) (0, (none, 0)) (Nat.zero_le _) esubT lessT ?_
  rintro ⟨k, s⟩ hk
  dsimp only at hk ⊢
  refine JC_seq (JC_seq ?_)
  refine JC_region (JL_1 rfl (op_move rfl) (JL_1 rfl (op_move rfl) (JL_1 rfl (op_lss (Ev.rfl' rfl) (Ev.rfl' rfl)) (JL_nil (JQ_then ?_)))))
  refine JC_cond (Ev.rfl' rfl) (fun h3 => ?_) (fun h3 => ?_)
  · have hlt : k < n := by have := of_decide_eq_true h3; omega
    clear h3
    have hol := ownV_len bm k
    refine JC_skip (JQ_then (JC_seq (JC_block (JC_seq ?_))))
    refine JC_region (JL_1 rfl (op_move rfl) (JL_1 rfl (op_move rfl) (JL_1 rfl (op_conv (Ev.rfl' rfl) rfl rfl convT) ?_)))
    refine JL_1 rfl (by exact op_shrU32 (k := _) ev32 (Ev.rfl' rfl) (by omega) idxT) ?_
    refine JL_1 rfl (by exact op_bits ev32 ev32 (by simp) (and_u32 _ _)) ?_
    refine JL_1 rfl (op_eql (Ev.rfl' rfl) (Ev.rfl' rfl)) (JL_nil (JQ_then ?_))
    refine JC_cond (Ev.rfl' rfl) (fun h5 => ?_) (fun h5 => ?_)
    · have g : bitB bm k = true := h5
      have hmt : ownV bm (k + 1) = ownV bm k ++ [(k : Int)] := by conv => lhs; unfold ownV; rw [if_pos g]
      clear h5
      refine JC_region (JL_1 rfl (op_move rfl) (JL_1 rfl (op_move rfl) (JL_1 rfl (op_buildSlice (size := 1) (qs := [(0, _)]) rfl rfl rfl ⟨⟨rfl, _, (Ev.rfl' rfl), cellsT⟩, trivial⟩ (by rfl) (by rfl)) ?_)))
      (refine JL_s rfl (op_app (Ev.rfl' rfl) (fun _ => replT) (by exact Ev.sub rfl (by exact SubL.row (xs := [(k : Int)]) (by rfl) (by rfl) subsT)) (by exact appT rfl rfl rfl) lenT) ?_; intro i21)
      refine JL_1 rfl (op_assign rfl) (JL_nil ?_)
      refine JQ_block (JQ_then ?_)
      refine JC_region (JL_1 rfl (op_move rfl) (JL_1 rfl (op_add (Ev.rfl' rfl) (Ev.rfl' rfl) wrapT) ?_))
      refine JL_1 rfl (op_assign rfl) (JL_nil ?_)
      rw [← hmt]
      exact JQ_roundP (k + 1, i21) (by dsimp only; omega) (by dsimp only; omega) esubT lessT
    have g : ¬ bitB bm k = true := fun e => Bool.noConfusion (show false = true from h5.symm.trans e)
    have hmt : ownV bm (k + 1) = ownV bm k := by conv => lhs; unfold ownV; rw [if_neg g]
    clear h5
    refine JC_skip (JQ_block (JQ_then ?_))
    refine JC_region (JL_1 rfl (op_move rfl) (JL_1 rfl (op_add (Ev.rfl' rfl) (Ev.rfl' rfl) wrapT) ?_))
    refine JL_1 rfl (op_assign rfl) (JL_nil ?_)
    rw [← hmt]
    exact JQ_roundP (k + 1, s) (by dsimp only; omega) (by dsimp only; omega) esubT lessT
  have hke : k = n := by have := of_decide_eq_false h3; omega
  subst hke
  clear h3
  refine JC_exit (JQ_then_exit (JQ_then_exit (JQ_hit (JQ_then (JC_seq ?_)))))
  refine JC_region (JL_1 rfl (op_move rfl) (JL_1 rfl (op_assign rfl) (JL_nil ?_)))
  refine JQ_then (JC_ret ?_)
  refine JQ_freeze hX replT ?_
  exact JQ_ret (Bs := [IsSl tI64 (ownV bm k)]) Tryz.results29 ⟨⟨_, rfl, subT⟩, trivial⟩ () SubL.rfl' (List.nil_sublist _)
theorem map_take1 {ls : List Int} {k : Nat} {l : Int} (h : ls[k]? = some l) : (ls.take (k + 1)).map lineV = (ls.take k).map lineV ++ [lineV l] := by
  rw [List.take_add_one, h]; simp
-- segment.headerLines: function 28
theorem headerLines_ok (ls : List Int) (hn : ls.length ≤ 1048576) : FnP Tryz.prog 28 [IsSl tI64 ls] (IsSl tI64 (ls.map lineV)) := by
  refine FnP.enter Tryz.func28 Tryz.ntmps28 rfl rfl ?_
  intro c hX
  refine JC_len (t := 0) rfl (fun hlen => ?_)
  refine JC_seq (JC_region (JL_1 rfl (op_assign rfl) (JL_nil ?_)))
  refine JQ_then (JC_seq ?_)
  refine JC_region (JL_1 rfl (op_assign rfl) (JL_nil ?_))
  refine JQ_then (JC_seq (JC_seq ?_))
  refine JC_buf0 3 tI64 (JC_region (JL_1 rfl (op_move rfl) (JL_1 rfl (by exact op_len (Ev.rfl' rfl) rfl) ?_)))
  refine JL_1 rfl (op_move rfl) (JL_nil ?_)
  refine JQ_then (JC_block ?_)
  refine JC_loopP (fun z : Nat × (Option Addr × Nat) => z.1 ≤ ls.length) (fun z => [(3, Is (slV ((ls.take z.1).map lineV).length z.2)), (6, IsSl tI64 ls), (7, Is (.int .i64 (ls.length : Nat))), (8, Is (.int .i64 (z.1 : Nat)))]) (fun z => [buf (slV ((ls.take z.1).map lineV).length z.2) 3 tI64 ((ls.take z.1).map lineV)]) (fun z => ls.length - z.1) (0, (none, 0)) (Nat.zero_le _) esubT lessT ?_
  rintro ⟨k, s⟩ hk
  dsimp only at hk ⊢
  refine JC_seq (JC_region (JL_1 rfl (op_lss (Ev.rfl' rfl) (Ev.rfl' rfl)) (JL_nil ?_)))
  refine JQ_then (JC_seq ?_)
  refine JC_cond (Ev.rfl' rfl) (fun h3 => ?_) (fun h3 => ?_)
  · have hlt : k < ls.length := by have := of_decide_eq_true h3; omega
    clear h3
    obtain ⟨l, hz⟩ : ∃ z, ls[k]? = some z := ⟨ls[k], List.getElem?_eq_getElem hlt⟩
    have hmt := map_take1 hz
    have hml : ((ls.take k).map lineV).length ≤ k := by simp; omega
    refine JC_skip (JQ_then (JC_seq (JC_block (JC_seq ?_))))
    refine JC_region (JL_1 rfl (by exact op_index (j := _) (Ev.rfl' rfl) (Ev.rfl' rfl) rfl rfl (by rfl) hz) ?_)
    refine JL_1 rfl (by exact op_loadRef (Ev.rfl' rfl) rfl rfl rfl) ?_
    refine JL_1 rfl (op_assign rfl) (JL_nil (JQ_then (JC_region (JL_1 rfl (op_move rfl) (JL_1 rfl (op_move rfl) (JL_1 rfl (op_call Tryz.call32 (HeaderLine_ok _) ⟨evS, trivial⟩) ?_))))))
    refine JL_1 rfl (op_buildSlice (size := 1) (qs := [(0, _)]) rfl rfl rfl ⟨⟨rfl, _, (Ev.rfl' rfl), cellsT⟩, trivial⟩ (by rfl) (by rfl)) ?_
    (refine JL_s rfl (op_app (Ev.rfl' rfl) (fun _ => replT) (by exact Ev.sub rfl (by exact SubL.row (xs := [lineV l]) (by rfl) (by rfl) subsT)) (by exact appT rfl rfl rfl) lenT) ?_; intro i16)
    refine JL_1 rfl (op_assign rfl) (JL_nil ?_)
    refine JQ_block (JQ_then ?_)
    refine JC_region (JL_1 rfl (op_add (Ev.rfl' rfl) (Ev.rfl' rfl) wrapT) ?_)
    refine JL_1 rfl (op_move rfl) (JL_nil ?_)
    rw [← hmt]
    exact JQ_roundP (k + 1, i16) (by dsimp only; omega) (by dsimp only; omega) esubT lessT
  have hke : k = ls.length := by have := of_decide_eq_false h3; omega
  subst hke
  clear h3
  rw [List.take_length]
  refine JC_exit (JQ_then_exit (JQ_then_exit (JQ_hit (JQ_then (JC_seq ?_)))))
  refine JC_region (JL_1 rfl (op_move rfl) (JL_1 rfl (op_assign rfl) (JL_nil ?_)))
  refine JQ_then (JC_ret ?_)
  refine JQ_freeze hX replT ?_
  exact JQ_ret (Bs := [IsSl tI64 (ls.map lineV)]) Tryz.results28 ⟨⟨_, rfl, subT⟩, trivial⟩ () SubL.rfl' (List.nil_sublist _)
/-! ### Known pages -/
def lockB (p : Pg) : Bool := UV (p.h &&& 255#64) != 0
def latP (ks : List Pg) (l : Int) : Pg := (latO ks l).getD Pg.nil
def latB (ks : List Pg) (l : Int) : Bool := (latO ks l).isSome
def nodeV (ks : List Pg) (c : Int) : Pg × Nd × Bool × Int :=
  if latB ks (98 + c) = true then (if lockB (latP ks (98 + c)) = true then (Pg.nil, Nd.nil, true, 3) else (latP ks (98 + c), (readN (latP ks (98 + c))).1, true, (readN (latP ks (98 + c))).2)) else (Pg.nil, Nd.nil, false, 0)
def headV (ks : List Pg) (s : Int) : Pg × Hd × Bool × Int :=
  if latB ks (lineV s) = true then (if lockB (latP ks (lineV s)) = true then (Pg.nil, Hd.nil, true, 3) else (latP ks (lineV s), (readH (latP ks (lineV s))).1, true, (readH (latP ks (lineV s))).2)) else (Pg.nil, Hd.nil, false, 0)
@[reducible] def IsNode (r : Pg × Nd × Bool × Int) : VP := IsTup [IsPg r.1, IsNd r.2.1, Is (.bool r.2.2.1), Is (.int .i64 r.2.2.2)]
@[reducible] def IsHead (r : Pg × Hd × Bool × Int) : VP := IsTup [IsPg r.1, IsHd r.2.1, Is (.bool r.2.2.1), Is (.int .i64 r.2.2.2)]
-- segment.node: function 26
theorem node_ok (ks : List Pg) (m : Int) (hc : 0 ≤ m ∧ m ≤ 1000) : FnP Tryz.prog 26 [IsSl tPg ks, Is (.int .i64 m)] (IsNode (nodeV ks m)) := by
  refine FnP.enter Tryz.func26 Tryz.ntmps26 rfl rfl ?_
  intro c hX
  refine JC_seq (JC_region ?_)
  (refine JL_n rfl (op_allocN rfl nrmT rfl) ?_; intro i4)
  (refine JL_n rfl (op_allocN rfl nrmT rfl) ?_; intro i5)
  refine JL_1 rfl (op_assign rfl) (JL_1 rfl (op_assign rfl) (JL_nil ?_))
  refine JQ_then (JC_seq ?_)
  refine JC_region (JL_1 rfl (op_move rfl) (JL_1 rfl (op_move rfl) (JL_1 rfl (op_add (Ev.rfl' rfl) (Ev.rfl' rfl) wrapT) ?_)))
  refine JL_1 rfl (op_call Tryz.call37 (Latest_ok _ _) ⟨evS, ⟨evS, trivial⟩⟩) ?_
  refine JL_1 rfl (op_move rfl) (JL_1 rfl (op_extract (Ev.rfl' rfl) rfl) (JL_1 rfl (op_extract (Ev.rfl' rfl) rfl) (JL_s0 (op_storeN (Ev.rfl' rfl) (Ev.rfl' rfl) cellsT replT nrmT (by rfl) (by rfl) (by rfl)) ?_)))
  refine JL_1 rfl (op_assign rfl) (JL_nil ?_)
  refine JQ_then (JC_seq (JC_seq ?_))
  refine JC_region (JL_1 rfl (op_move rfl) (JL_1 rfl (op_not (Ev.rfl' rfl)) (JL_nil (JQ_then ?_))))
  refine JC_cond (Ev.rfl' rfl) (fun h2 => ?_) (fun h2 => ?_)
  · have g : latB ks (98 + m) = false := by unfold latB; simpa using h2
    have q : nodeV ks m = (Pg.nil, Nd.nil, false, 0) := by unfold nodeV; rw [if_neg (by rw [g]; simp)]
    rw [q]
    refine JC_seq (JC_region (JL_1 rfl (op_buildN (qs := []) rfl rfl rfl rfl trivial (by rfl) nrmT) ?_))
    refine JL_1 rfl (op_buildN (qs := []) rfl rfl rfl rfl trivial (by rfl) nrmT) ?_
    refine JL_s0 (op_storeN (Ev.rfl' rfl) (Ev.rfl' rfl) cellsT replT nrmT (by rfl) (by rfl) (by rfl)) ?_
    refine JL_s0 (op_storeN (Ev.rfl' rfl) (Ev.rfl' rfl) cellsT replT nrmT (by rfl) (by rfl) (by rfl)) ?_
    refine JL_1 rfl (op_assign rfl) (JL_1 rfl (op_assign rfl) (JL_nil ?_))
    refine JQ_then (JC_ret (JQ_then_ret ?_))
    exact JQ_ret (Bs := [IsPg Pg.nil, IsNd Nd.nil, Is (.bool false), Is (.int .i64 0)]) Tryz.results26 ⟨⟨_, _, _, _, rfl, memT, rfl, .inr ⟨rfl, _, rfl, rfl, subT⟩⟩, ⟨⟨_, _, _, _, rfl, memT, rfl, .inr ⟨rfl, _, rfl, rfl, subT⟩⟩, ⟨⟨_, rfl, subT⟩, ⟨⟨_, rfl, subT⟩, trivial⟩⟩⟩⟩ () SubL.rfl' (List.nil_sublist _)
  have g : latB ks (98 + m) = true := by unfold latB; simpa using h2
  refine JC_skip (JQ_then (JC_seq (JC_seq ?_)))
  refine JC_region (JL_1 rfl (by exact op_loadPtrsN (n := 9) (Ev.rfl' rfl) memT (by rfl) (by rfl) (by rfl) (by rfl) nrmT) ?_)
  refine JL_1 rfl (op_call Tryz.call39 (Locked_ok _) ⟨evS, trivial⟩) ?_
  refine JL_nil (JQ_then ?_)
  refine JC_cond (Ev.rfl' rfl) (fun h4 => ?_) (fun h4 => ?_)
  · have g2 : lockB (latP ks (98 + m)) = true := h4
    have q : nodeV ks m = (Pg.nil, Nd.nil, true, 3) := by unfold nodeV; rw [if_pos g, if_pos g2]
    rw [q]
    refine JC_seq (JC_region (JL_1 rfl (op_buildN (qs := []) rfl rfl rfl rfl trivial (by rfl) nrmT) ?_))
    refine JL_1 rfl (op_buildN (qs := []) rfl rfl rfl rfl trivial (by rfl) nrmT) ?_
    refine JL_s0 (op_storeN (Ev.rfl' rfl) (Ev.rfl' rfl) cellsT replT nrmT (by rfl) (by rfl) (by rfl)) ?_
    refine JL_s0 (op_storeN (Ev.rfl' rfl) (Ev.rfl' rfl) cellsT replT nrmT (by rfl) (by rfl) (by rfl)) ?_
    refine JL_1 rfl (op_assign rfl) (JL_1 rfl (op_assign rfl) (JL_nil ?_))
    refine JQ_then (JC_ret (JQ_then_ret ?_))
    exact JQ_ret (Bs := [IsPg Pg.nil, IsNd Nd.nil, Is (.bool true), Is (.int .i64 3)]) Tryz.results26 ⟨⟨_, _, _, _, rfl, memT, rfl, .inr ⟨rfl, _, rfl, rfl, subT⟩⟩, ⟨⟨_, _, _, _, rfl, memT, rfl, .inr ⟨rfl, _, rfl, rfl, subT⟩⟩, ⟨⟨_, rfl, subT⟩, ⟨⟨_, rfl, subT⟩, trivial⟩⟩⟩⟩ () SubL.rfl' (List.nil_sublist _)
  have g2 : ¬ lockB (latP ks (98 + m)) = true := fun e => Bool.noConfusion ((show false = true from h4.symm.trans e))
  have q : nodeV ks m = (latP ks (98 + m), (readN (latP ks (98 + m))).1, true, (readN (latP ks (98 + m))).2) := by unfold nodeV; rw [if_pos g, if_neg g2]
  rw [q]
  clear h4
  refine JC_skip (JQ_then (JC_seq ?_))
  refine JC_region (JL_1 rfl (by exact op_loadPtrsN (n := 9) (Ev.rfl' rfl) memT (by rfl) (by rfl) (by rfl) (by rfl) nrmT) ?_)
  refine JL_1 rfl (op_call Tryz.call8 (ReadNode_ok _) ⟨evS, trivial⟩) ?_
  refine JL_1 rfl (op_move rfl) (JL_1 rfl (op_extract (Ev.rfl' rfl) rfl) (JL_1 rfl (op_extract (Ev.rfl' rfl) rfl) (JL_s0 (op_storeN (Ev.rfl' rfl) (Ev.rfl' rfl) cellsT replT nrmT (by rfl) (by rfl) (by rfl)) ?_)))
  refine JL_1 rfl (op_assign rfl) (JL_nil ?_)
  refine JQ_then (JC_seq ?_)
  refine JC_dr rfl (by kernel_rfl) ?_
  refine JD_phase [1, 1, 0, 1, 1, 0, 0] (by kernel_rfl) (by kernel_rfl) ?_
  refine PW_1 (by exact op_loadPtrsN (n := 9) (Ev.rfl' rfl) memT (by rfl) (by rfl) (by rfl) (by rfl) nrmT) ?_
  refine PW_1 (by exact op_loadPtrsN (n := 16) (Ev.rfl' rfl) memT (by rfl) (by rfl) (by rfl) (by rfl) nrmT) ?_
  refine PW_0 (op_move rfl) (PW_3 (op_storeN (Ev.rfl' rfl) (Ev.rfl' rfl) cellsT replT nrmT (by rfl) (by rfl) (by rfl)) ?_)
  refine PW_3 (op_storeN (Ev.rfl' rfl) (Ev.rfl' rfl) cellsT replT nrmT (by rfl) (by rfl) (by rfl)) ?_
  refine PW_0 (op_assign rfl) (PW_0 (op_assign rfl) (PW_end (JD_end ?_)))
  refine JQ_then (JC_ret ?_)
  exact JQ_ret (Bs := [IsPg (latP ks (98 + m)), IsNd (readN (latP ks (98 + m))).1, Is (.bool true), Is (.int .i64 (readN (latP ks (98 + m))).2)]) Tryz.results26 ⟨⟨_, _, _, _, rfl, memT, rfl, .inr ⟨rfl, _, rfl, rfl, subT⟩⟩, ⟨⟨_, _, _, _, rfl, memT, rfl, .inr ⟨rfl, _, rfl, rfl, subT⟩⟩, ⟨⟨_, rfl, subT⟩, ⟨⟨_, rfl, subT⟩, trivial⟩⟩⟩⟩ () SubL.rfl' (List.nil_sublist _)
-- segment.header: function 31
theorem header_ok (ks : List Pg) (m : Int) : FnP Tryz.prog 31 [IsSl tPg ks, Is (.int .i64 m)] (IsHead (headV ks m)) := by
  refine FnP.enter Tryz.func31 Tryz.ntmps31 rfl rfl ?_
  intro c hX
  refine JC_seq (JC_region ?_)
  (refine JL_n rfl (op_allocN rfl nrmT rfl) ?_; intro i4)
  (refine JL_n rfl (op_allocN rfl nrmT rfl) ?_; intro i5)
  refine JL_1 rfl (op_assign rfl) (JL_1 rfl (op_assign rfl) (JL_nil ?_))
  refine JQ_then (JC_seq ?_)
  refine JC_region (JL_1 rfl (op_move rfl) (JL_1 rfl (op_move rfl) (JL_1 rfl (op_call Tryz.call32 (HeaderLine_ok _) ⟨evS, trivial⟩) ?_)))
  refine JL_1 rfl (op_call Tryz.call37 (Latest_ok _ _) ⟨evS, ⟨evS, trivial⟩⟩) ?_
  refine JL_1 rfl (op_move rfl) (JL_1 rfl (op_extract (Ev.rfl' rfl) rfl) (JL_1 rfl (op_extract (Ev.rfl' rfl) rfl) (JL_s0 (op_storeN (Ev.rfl' rfl) (Ev.rfl' rfl) cellsT replT nrmT (by rfl) (by rfl) (by rfl)) ?_)))
  refine JL_1 rfl (op_assign rfl) (JL_nil ?_)
  refine JQ_then (JC_seq (JC_seq ?_))
  refine JC_region (JL_1 rfl (op_move rfl) (JL_1 rfl (op_not (Ev.rfl' rfl)) (JL_nil (JQ_then ?_))))
  refine JC_cond (Ev.rfl' rfl) (fun h2 => ?_) (fun h2 => ?_)
  · have g : latB ks (lineV m) = false := by unfold latB; simpa using h2
    have q : headV ks m = (Pg.nil, Hd.nil, false, 0) := by unfold headV; rw [if_neg (by rw [g]; simp)]
    rw [q]
    refine JC_seq (JC_region (JL_1 rfl (op_buildN (qs := []) rfl rfl rfl rfl trivial (by rfl) nrmT) ?_))
    refine JL_1 rfl (op_buildN (qs := []) rfl rfl rfl rfl trivial (by rfl) nrmT) ?_
    refine JL_s0 (op_storeN (Ev.rfl' rfl) (Ev.rfl' rfl) cellsT replT nrmT (by rfl) (by rfl) (by rfl)) ?_
    refine JL_s0 (op_storeN (Ev.rfl' rfl) (Ev.rfl' rfl) cellsT replT nrmT (by rfl) (by rfl) (by rfl)) ?_
    refine JL_1 rfl (op_assign rfl) (JL_1 rfl (op_assign rfl) (JL_nil ?_))
    refine JQ_then (JC_ret (JQ_then_ret ?_))
    exact JQ_ret (Bs := [IsPg Pg.nil, IsHd Hd.nil, Is (.bool false), Is (.int .i64 0)]) Tryz.results31 ⟨⟨_, _, _, _, rfl, memT, rfl, .inr ⟨rfl, _, rfl, rfl, subT⟩⟩, ⟨⟨_, _, _, _, rfl, memT, rfl, .inr ⟨rfl, _, rfl, rfl, subT⟩⟩, ⟨⟨_, rfl, subT⟩, ⟨⟨_, rfl, subT⟩, trivial⟩⟩⟩⟩ () SubL.rfl' (List.nil_sublist _)
  have g : latB ks (lineV m) = true := by unfold latB; simpa using h2
  refine JC_skip (JQ_then (JC_seq (JC_seq ?_)))
  refine JC_region (JL_1 rfl (by exact op_loadPtrsN (n := 9) (Ev.rfl' rfl) memT (by rfl) (by rfl) (by rfl) (by rfl) nrmT) ?_)
  refine JL_1 rfl (op_call Tryz.call39 (Locked_ok _) ⟨evS, trivial⟩) ?_
  refine JL_nil (JQ_then ?_)
  refine JC_cond (Ev.rfl' rfl) (fun h4 => ?_) (fun h4 => ?_)
  · have g2 : lockB (latP ks (lineV m)) = true := h4
    have q : headV ks m = (Pg.nil, Hd.nil, true, 3) := by unfold headV; rw [if_pos g, if_pos g2]
    rw [q]
    refine JC_seq (JC_region (JL_1 rfl (op_buildN (qs := []) rfl rfl rfl rfl trivial (by rfl) nrmT) ?_))
    refine JL_1 rfl (op_buildN (qs := []) rfl rfl rfl rfl trivial (by rfl) nrmT) ?_
    refine JL_s0 (op_storeN (Ev.rfl' rfl) (Ev.rfl' rfl) cellsT replT nrmT (by rfl) (by rfl) (by rfl)) ?_
    refine JL_s0 (op_storeN (Ev.rfl' rfl) (Ev.rfl' rfl) cellsT replT nrmT (by rfl) (by rfl) (by rfl)) ?_
    refine JL_1 rfl (op_assign rfl) (JL_1 rfl (op_assign rfl) (JL_nil ?_))
    refine JQ_then (JC_ret (JQ_then_ret ?_))
    exact JQ_ret (Bs := [IsPg Pg.nil, IsHd Hd.nil, Is (.bool true), Is (.int .i64 3)]) Tryz.results31 ⟨⟨_, _, _, _, rfl, memT, rfl, .inr ⟨rfl, _, rfl, rfl, subT⟩⟩, ⟨⟨_, _, _, _, rfl, memT, rfl, .inr ⟨rfl, _, rfl, rfl, subT⟩⟩, ⟨⟨_, rfl, subT⟩, ⟨⟨_, rfl, subT⟩, trivial⟩⟩⟩⟩ () SubL.rfl' (List.nil_sublist _)
  have g2 : ¬ lockB (latP ks (lineV m)) = true := fun e => Bool.noConfusion ((show false = true from h4.symm.trans e))
  have q : headV ks m = (latP ks (lineV m), (readH (latP ks (lineV m))).1, true, (readH (latP ks (lineV m))).2) := by unfold headV; rw [if_pos g, if_neg g2]
  rw [q]
  clear h4
  refine JC_skip (JQ_then (JC_seq ?_))
  refine JC_region (JL_1 rfl (by exact op_loadPtrsN (n := 9) (Ev.rfl' rfl) memT (by rfl) (by rfl) (by rfl) (by rfl) nrmT) ?_)
  refine JL_1 rfl (op_call Tryz.call48 (ReadHeader_ok _) ⟨evS, trivial⟩) ?_
  refine JL_1 rfl (op_move rfl) (JL_1 rfl (op_extract (Ev.rfl' rfl) rfl) (JL_1 rfl (op_extract (Ev.rfl' rfl) rfl) (JL_s0 (op_storeN (Ev.rfl' rfl) (Ev.rfl' rfl) cellsT replT nrmT (by rfl) (by rfl) (by rfl)) ?_)))
  refine JL_1 rfl (op_assign rfl) (JL_nil ?_)
  refine JQ_then (JC_seq ?_)
  refine JC_dr rfl (by kernel_rfl) ?_
  refine JD_phase [1, 1, 0, 1, 1, 0, 0] (by kernel_rfl) (by kernel_rfl) ?_
  refine PW_1 (by exact op_loadPtrsN (n := 9) (Ev.rfl' rfl) memT (by rfl) (by rfl) (by rfl) (by rfl) nrmT) ?_
  refine PW_1 (by exact op_loadPtrsN (n := 2) (Ev.rfl' rfl) memT (by rfl) (by rfl) (by rfl) (by rfl) nrmT) ?_
  refine PW_0 (op_move rfl) (PW_3 (op_storeN (Ev.rfl' rfl) (Ev.rfl' rfl) cellsT replT nrmT (by rfl) (by rfl) (by rfl)) ?_)
  refine PW_3 (op_storeN (Ev.rfl' rfl) (Ev.rfl' rfl) cellsT replT nrmT (by rfl) (by rfl) (by rfl)) ?_
  refine PW_0 (op_assign rfl) (PW_0 (op_assign rfl) (PW_end (JD_end ?_)))
  refine JQ_then (JC_ret ?_)
  exact JQ_ret (Bs := [IsPg (latP ks (lineV m)), IsHd (readH (latP ks (lineV m))).1, Is (.bool true), Is (.int .i64 (readH (latP ks (lineV m))).2)]) Tryz.results31 ⟨⟨_, _, _, _, rfl, memT, rfl, .inr ⟨rfl, _, rfl, rfl, subT⟩⟩, ⟨⟨_, _, _, _, rfl, memT, rfl, .inr ⟨rfl, _, rfl, rfl, subT⟩⟩, ⟨⟨_, rfl, subT⟩, ⟨⟨_, rfl, subT⟩, trivial⟩⟩⟩⟩ () SubL.rfl' (List.nil_sublist _)
end Go.Proofs.YtfkmbdpnjcgimaaGreat

/- Contracts: the first segment without an owner; two pages in ascending order; a segment taken. Own work. -/
namespace Go.Proofs.YtfkmbdpnjcgimaaGreat
open Go.RowKit
set_option linter.unusedVariables false
set_option linter.unusedSimpArgs false
set_option maxRecDepth 100000
theorem tmN (a b n : Nat) : ((a : Int) + (b : Int)).tmod (n : Int) = ((a + b) % n : Nat) := by
  rw [← Int.natCast_add, Int.tmod_eq_emod_of_nonneg (by omega), Int.natCast_emod]
def fstF (f : Nat → Bool) : Nat → Nat → Option Nat
  | _, 0 => none
  | k, n + 1 => if f k = true then some k else fstF f (k + 1) n
def freeB (ks : List Pg) (s : Nat) : Bool := (headV ks (s : Nat)).2.2.2 == 0 && (headV ks (s : Nat)).2.1.owner == -1
def unO (ks : List Pg) (st n : Nat) : Option Nat := fstF (fun i => freeB ks ((st + i) % n)) 0 n
theorem unO_step {ks : List Pg} {st n k : Nat} (hk : k < n) : fstF (fun i => freeB ks ((st + i) % n)) k (n - k) = if freeB ks ((st + k) % n) = true then some k else fstF (fun i => freeB ks ((st + i) % n)) (k + 1) (n - (k + 1)) := by
  obtain ⟨m, e⟩ : ∃ m, n - k = m + 1 := ⟨n - k - 1, by omega⟩
  rw [e, show n - (k + 1) = m by omega]
  rfl
def sV (ks : List Pg) (st n : Nat) : Nat := ((unO ks st n).map fun i => (st + i) % n).getD 0
def sB (ks : List Pg) (st n : Nat) : Bool := (unO ks st n).isSome
theorem fst_some {f : Nat → Bool} : ∀ {n k i : Nat}, fstF f k n = some i → f i = true ∧ k ≤ i ∧ i < k + n
  | 0, k, i, h => by simp [fstF] at h
  | n + 1, k, i, h => by
    unfold fstF at h
    split at h
    · rename_i g
      cases h
      exact ⟨g, Nat.le_refl _, by omega⟩
    · obtain ⟨h1, h2, h3⟩ := fst_some h
      exact ⟨h1, by omega, by omega⟩
theorem sB_yes {ks : List Pg} {st n : Nat} (h : sB ks st n = true) : freeB ks (sV ks st n) = true ∧ sV ks st n < n := by
  unfold sB at h
  obtain ⟨i, hi⟩ := Option.isSome_iff_exists.1 h
  obtain ⟨h1, _, h2⟩ := fst_some hi
  have e : sV ks st n = (st + i) % n := by unfold sV; rw [hi]; rfl
  rw [e]
  exact ⟨h1, Nat.mod_lt _ (by omega)⟩
-- segment.unowned: function 30
theorem unowned_ok (ks : List Pg) (st n : Nat) (hst : st ≤ 1000) (hn : n ≤ 9) : FnP Tryz.prog 30 [IsSl tPg ks, Is (.int .i64 (st : Nat)), Is (.int .i64 (n : Nat))] (IsTup [Is (.int .i64 (sV ks st n : Nat)), Is (.bool (sB ks st n))]) := by
  refine FnP.enter Tryz.func30 Tryz.ntmps30 rfl rfl ?_
  intro c hX
  refine JC_seq (JC_region (JL_1 rfl (op_assign rfl) (JL_1 rfl (op_assign rfl) (JL_nil ?_))))
  refine JQ_then (JC_seq (JC_seq ?_))
  refine JC_region (JL_1 rfl (op_assign rfl) (JL_nil ?_))
  refine JQ_then (JC_block ?_)
  refine JC_loopP (fun k : Nat => k ≤ n ∧ unO ks st n = fstF (fun i => freeB ks ((st + i) % n)) k (n - k)) (fun k => [(0, IsSl tPg ks), (1, Is (.int .i64 (st : Nat))), (2, Is (.int .i64 (n : Nat))), (8, Is (.int .i64 (k : Nat)))]) (fun _ => []) (fun k => n - k) 0 ⟨Nat.zero_le _, rfl⟩ esubT lessT ?_
  rintro k ⟨hk, hs⟩
  refine JC_seq (JC_seq ?_)
  refine JC_region (JL_1 rfl (op_move rfl) (JL_1 rfl (op_move rfl) (JL_1 rfl (op_lss (Ev.rfl' rfl) (Ev.rfl' rfl)) (JL_nil (JQ_then ?_)))))
  refine JC_cond (Ev.rfl' rfl) (fun h2 => ?_) (fun h2 => ?_)
  · have hlt : k < n := by have := of_decide_eq_true h2; omega
    clear h2
    have hm : (st + k) % n < n := Nat.mod_lt _ (by omega)
    rw [unO_step hlt] at hs
    refine JC_skip (JQ_then (JC_seq (JC_block (JC_seq ?_))))
    refine JC_region (JL_1 rfl (op_move rfl) (JL_1 rfl (op_move rfl) (JL_1 rfl (op_add (Ev.rfl' rfl) (Ev.rfl' rfl) wrapT) ?_)))
    refine JL_1 rfl (op_move rfl) (JL_1 rfl (op_rem (Ev.rfl' rfl) (Ev.rfl' rfl) (by omega) (tmN _ _ _)) ?_)
    refine JL_1 rfl (op_assign rfl) (JL_nil ?_)
    refine JQ_then (JC_seq ?_)
    refine JC_region (JL_1 rfl (op_move rfl) (JL_1 rfl (op_move rfl) (JL_1 rfl (op_call Tryz.call31 (header_ok _ _) ⟨evS, ⟨evS, trivial⟩⟩) ?_)))
    refine JL_1 rfl (op_move rfl) (JL_1 rfl (op_extract (Ev.rfl' rfl) rfl) (JL_1 rfl (op_extract (Ev.rfl' rfl) rfl) (JL_1 rfl (op_extract (Ev.rfl' rfl) rfl) (JL_1 rfl (op_extract (Ev.rfl' rfl) rfl) ?_))))
    (refine JL_n rfl (op_allocN rfl nrmT rfl) ?_; intro i10)
    (refine JL_n rfl (op_allocN rfl nrmT rfl) ?_; intro i11)
    refine JL_s0 (op_storeN (Ev.rfl' rfl) (Ev.rfl' rfl) cellsT replT nrmT (by rfl) (by rfl) (by rfl)) ?_
    refine JL_s0 (op_storeN (Ev.rfl' rfl) (Ev.rfl' rfl) cellsT replT nrmT (by rfl) (by rfl) (by rfl)) ?_
    refine JL_1 rfl (op_assign rfl) (JL_1 rfl (op_assign rfl) (JL_nil ?_))
    refine JQ_then (JC_seq ?_)
    refine JC_region (JL_1 rfl (op_move rfl) (JL_1 rfl (op_eql (Ev.rfl' rfl) (Ev.rfl' rfl)) (JL_1 rfl (op_move rfl) ?_)))
    (refine JL_i0 rfl rfl rfl (fun hg => (by have hg0 := hg; (try simp at hg); exact op_fieldPtr (k := 0) evG rfl rfl rfl rfl)) ?_)
    (refine JL_i0 rfl rfl rfl (fun hg => (by have hg0 := hg; (try simp at hg); exact op_loadPtr evG memT (by rfl) (by rfl) (by rfl))) ?_)
    (refine JL_i0 rfl rfl rfl (fun hg => (by have hg0 := hg; (try simp at hg); exact op_eql evG evG)) ?_)
    refine JL_1 rfl (op_and (Ev.rfl' rfl) rfl (fun h => by exact SubL.iteT (by (rw [h]; rfl)) SubL.rfl')) ?_
    refine JL_nil (JQ_then ?_)
    refine JC_cond (Ev.rfl' rfl) (fun h6 => ?_) (fun h6 => ?_)
    · have g : freeB ks ((st + k) % n) = true := h6
      rw [if_pos g] at hs
      have e1 : sV ks st n = (st + k) % n := by unfold sV; rw [hs]; rfl
      have e2 : sB ks st n = true := by unfold sB; rw [hs]; rfl
      rw [e1, e2]
      refine JC_seq (JC_region (JL_1 rfl (op_move rfl) (JL_1 rfl (op_assign rfl) (JL_1 rfl (op_assign rfl) (JL_nil ?_)))))
      refine JQ_then (JC_ret (JQ_block_ret (JQ_then_ret (JQ_then_ret (JQ_block_ret (JQ_then_ret ?_))))))
      exact JQ_ret (Bs := [Is (.int .i64 ((st + k) % n : Nat)), Is (.bool true)]) Tryz.results30 ⟨⟨_, rfl, subT⟩, ⟨⟨_, rfl, subT⟩, trivial⟩⟩ () SubL.rfl' (List.nil_sublist _)
    have g : ¬ freeB ks ((st + k) % n) = true := fun e => Bool.noConfusion (show false = true from h6.symm.trans e)
    rw [if_neg g] at hs
    refine JC_skip (JQ_block (JQ_then ?_))
    refine JC_region (JL_1 rfl (op_move rfl) (JL_1 rfl (op_add (Ev.rfl' rfl) (Ev.rfl' rfl) wrapT) ?_))
    refine JL_1 rfl (op_assign rfl) (JL_nil ?_)
    exact JQ_roundP (k + 1) ⟨by omega, hs⟩ (by omega) esubT lessT
  have hge : k = n := by have := of_decide_eq_false h2; omega
  subst hge
  have e : unO ks st k = none := by rw [hs, Nat.sub_self]; rfl
  have e1 : sV ks st k = 0 := by unfold sV; rw [e]; rfl
  have e2 : sB ks st k = false := by unfold sB; rw [e]; rfl
  rw [e1, e2]
  refine JC_exit (JQ_then_exit (JQ_then_exit (JQ_hit (JQ_then (JC_seq ?_)))))
  refine JC_region (JL_1 rfl (op_assign rfl) (JL_1 rfl (op_assign rfl) (JL_nil ?_)))
  refine JQ_then (JC_ret ?_)
  exact JQ_ret (Bs := [Is (.int .i64 (0 : Nat)), Is (.bool false)]) Tryz.results30 ⟨⟨_, rfl, subT⟩, ⟨⟨_, rfl, subT⟩, trivial⟩⟩ () SubL.rfl' (List.nil_sublist _)
theorem two_asc {a b : Pg} {ys : List Pg} (h : a.l < b.l) (hs : Srt Pg.l 0 2 ys) (hp : PI 0 2 [a, b] ys) : ys = [a, b] := by
  have hl : ys.length = 2 := hp.len
  have hd : (ys.map Pg.l).Nodup := ((hp.perm.map Pg.l).nodup_iff).2 (by simp; omega)
  exact asc_unique (key := Pg.l) hp.perm (srt_asc (by rw [hl]; exact hs) hd) (by simp [h])
def countN (l : Int) : Nat := (countV l).toNat
theorem countN_le (l : Int) : countN l ≤ 9 := by unfold countN; have := count_rng l; omega
theorem CountN_ok (l : Int) : FnP Tryz.prog 27 [Is (.int .i64 l)] (Is (.int .i64 (countN l : Nat))) := by
  have e : ((countN l : Nat) : Int) = countV l := by unfold countN; have := count_rng l; omega
  rw [e]
  exact Count_ok l
def hdrL (lines : Int) : List Int := (ownV 511#32 (countN lines)).map lineV
@[reducible] def ndS (n : Nd) (s : Nat) (inc : Int) : Nd := ⟨n.pin, n.ep, n.sg ||| BitVec.ofInt 32 1 <<< ((s : Nat) : Int).toNat, inc, n.r0, n.r1, n.r2, n.r3⟩
@[reducible] def hdS (h : Hd) (o : Int) : Hd := ⟨o, h.used⟩
def mineW (ks : List Pg) (c : Nat) (inc : Int) (s : Nat) : Pg := (writeN (nodeV ks c).1 (ndS (nodeV ks c).2.1 s inc)).1
def headW (ks : List Pg) (c s : Nat) : Pg := (writeH (headV ks s).1 (hdS (headV ks s).2.1 (c : Nat))).1
def acqV (ks : List Pg) (c : Nat) (inc lines : Int) : List Int × List Pg × Nat × Int × Bool :=
  if 0 < (missV ks [98 + (c : Int)]).length then (missV ks [98 + (c : Int)], [], 0, 0, false)
  else if (nodeV ks c).2.2.2 ≠ 0 then ([], [], 0, (nodeV ks c).2.2.2, true)
  else if 0 < (missV ks (hdrL lines)).length then (missV ks (hdrL lines), [], 0, 0, false)
  else if sB ks c (countN lines) = true then ([], [mineW ks c inc (sV ks c (countN lines)), headW ks c (sV ks c (countN lines))], sV ks c (countN lines), 0, true)
  else ([], [], 0, 12, true)
theorem free_have {ks : List Pg} {s : Nat} (h : freeB ks s = true) : (headV ks s).2.2.1 = true ∧ (headV ks s).2.2.2 = 0 ∧ (headV ks s).2.1.owner = -1 := by
  unfold freeB at h
  rw [Bool.and_eq_true, beq_iff_eq, beq_iff_eq] at h
  refine ⟨?_, h.1, h.2⟩
  have h2 := h.2
  revert h2
  unfold headV
  split
  · split <;> intro _ <;> rfl
  · intro e; exact absurd e (by decide)
theorem miss1 (ks : List Pg) (l : Int) : (missV ks [l]).length ≤ 1 := by
  unfold missV
  exact List.length_filter_le _ _
-- segment.Acquire: function 13
end Go.Proofs.YtfkmbdpnjcgimaaGreat

/- Contracts: a new heap; the example of the statements. Own work. -/
namespace Go.Proofs.YtfkmbdpnjcgimaaGreat
open Go.RowKit
set_option linter.unusedVariables false
set_option linter.unusedSimpArgs false
set_option maxRecDepth 100000
def pgN (k : Nat) : Pg := ⟨96 + k, 256#64, 0#64, 0#64, 0#64, 0#64, 0#64, 0#64, 0#64⟩
def newL : Nat → List Pg
  | 0 => []
  | n + 1 => newL n ++ [pgN n]
theorem newL_len : ∀ n : Nat, (newL n).length = n
  | 0 => rfl
  | n + 1 => by unfold newL; rw [List.length_append, newL_len n]; rfl
theorem newL_succ (n : Nat) : newL (n + 1) = newL n ++ [pgN n] := rfl
@[reducible] def heapC (pv : Value) (lines : Int) : List VP := [Is pv, Is (.int .i64 lines), Is (.int .i64 0), Is (.slice none 0 0), Is (.int .i64 1), Is (.int .i64 0), Is (.int .u32 1)]
-- bodegaheap.New: function 11
theorem New_ok (n : Nat) (hn : n ≤ 200) : Fn Tryz.prog 11 [Is (.int .i64 (96 + (n : Int)))] [] (fun i : Nat × (Option Addr × Nat) => Is (.pointer (some ⟨i.1, 0, none⟩))) (fun i => [blk i.1 58 (heapC (slV n i.2) (96 + (n : Int))), buf (slV n i.2) 51 tPg (newL n)]) := by
  refine Fn.enterN Tryz.func11 Tryz.ntmps11 rfl rfl ?_
  intro c hX
  refine JC_seq (JC_region (JL_1 rfl (op_assign rfl) (JL_nil ?_)))
  refine JQ_then (JC_seq ?_)
  refine JC_region (JL_1 rfl (op_move rfl) (JL_1 rfl (op_buildN (qs := [(0, _), (2, _)]) rfl rfl rfl rfl ⟨⟨rfl, _, (Ev.rfl' rfl), cellsT⟩, ⟨⟨rfl, _, (Ev.rfl' rfl), cellsT⟩, trivial⟩⟩ (by rfl) nrmT) ?_))
  refine JL_1 rfl (op_buildN (qs := [(1, _), (4, _)]) rfl rfl rfl rfl ⟨⟨rfl, _, (Ev.rfl' rfl), cellsT⟩, ⟨⟨rfl, _, (Ev.rfl' rfl), cellsT⟩, trivial⟩⟩ (by rfl) nrmT) ?_
  (refine JL_n rfl (op_box (Ev.rfl' rfl) cellsT) ?_; intro i8)
  refine JL_1 rfl (op_assign rfl) (JL_nil ?_)
  refine JQ_then (JC_seq (JC_seq ?_))
  refine JC_buf0 51 tPg (JC_region (JL_1 rfl (op_assign rfl) (JL_nil ?_)))
  refine JQ_then (JC_block ?_)
  refine JC_loopP (fun z : Nat × (Option Addr × Nat) => z.1 ≤ n) (fun z => [(0, Is (.int .i64 (96 + (n : Int)))), (3, Is (.pointer (some ⟨i8, 0, none⟩))), (4, Is (.int .i64 (96 + (z.1 : Int))))]) (fun z => [blk i8 58 (heapC (slV (newL z.1).length z.2) (96 + (n : Int))), buf (slV (newL z.1).length z.2) 51 tPg (newL z.1)]) (fun z => n - z.1) (0, (none, 0)) (Nat.zero_le _) esubT lessT ?_
  rintro ⟨k, s⟩ hk
  dsimp only at hk ⊢
  have hkl := newL_len k
  refine JC_seq (JC_seq ?_)
  refine JC_region (JL_1 rfl (op_move rfl) (JL_1 rfl (op_move rfl) (JL_1 rfl (op_lss (Ev.rfl' rfl) (Ev.rfl' rfl)) (JL_nil (JQ_then ?_)))))
  refine JC_cond (Ev.rfl' rfl) (fun h3 => ?_) (fun h3 => ?_)
  · have hlt : k < n := by have := of_decide_eq_true h3; omega
    clear h3
    refine JC_skip (JQ_then (JC_seq (JC_block ?_)))
    refine JC_region (JL_1 rfl (op_move rfl) (JL_1 rfl (op_move rfl) (JL_1 rfl (by exact op_nilCheck (Ev.rfl' rfl)) ?_)))
    refine JL_1 rfl (by exact op_fieldPtr (k := 0) (Ev.rfl' rfl) rfl rfl rfl rfl) ?_
    refine JL_1 rfl (by exact op_loadPtr (Ev.rfl' rfl) memT (by rfl) (by rfl) (by rfl)) ?_
    refine JL_1 rfl (op_move rfl) (JL_1 rfl (op_buildN (qs := [(0, _), (1, _)]) rfl rfl rfl rfl ⟨⟨rfl, _, (Ev.rfl' rfl), cellsT⟩, ⟨⟨rfl, _, (Ev.rfl' rfl), cellsT⟩, trivial⟩⟩ (by rfl) nrmT) ?_)
    refine JL_1 rfl (op_buildSlice (size := 9) (qs := [(0, _)]) rfl rfl rfl ⟨⟨rfl, _, (Ev.rfl' rfl), cellsT⟩, trivial⟩ (by rfl) (by rfl)) ?_
    (refine JL_s rfl (op_app (Ev.rfl' rfl) (fun _ => replT) (by exact Ev.sub rfl (by exact SubL.row (xs := [pgN k]) (by rfl) (by rfl) subsT)) (by exact appT rfl rfl rfl) lenT) ?_; intro i22)
    refine JL_1 rfl (by exact op_nilCheck (Ev.rfl' rfl)) ?_
    refine JL_1 rfl (by exact op_fieldPtr (k := 0) (Ev.rfl' rfl) rfl rfl rfl rfl) ?_
    refine JL_s0 (op_storeN (Ev.rfl' rfl) (Ev.rfl' rfl) cellsT replT nrmT (by rfl) (by rfl) (by rfl)) ?_
    refine JL_nil ?_
    refine JQ_block (JQ_then ?_)
    refine JC_region (JL_1 rfl (op_move rfl) (JL_1 rfl (op_add (Ev.rfl' rfl) (Ev.rfl' rfl) wrapT) ?_))
    refine JL_1 rfl (op_assign rfl) (JL_nil ?_)
    rw [← newL_succ]
    exact JQ_roundP (k + 1, i22) (by dsimp only; omega) (by dsimp only; omega) ⟨⟨_, rfl, SubL.rfl'⟩, ⟨_, rfl, SubL.rfl'⟩, ⟨_, rfl, SubL.eq (ieq (by omega))⟩, trivial⟩ lessT
  have hke : k = n := by have := of_decide_eq_false h3; omega
  subst hke
  clear h3
  rw [hkl]
  refine JC_exit (JQ_then_exit (JQ_then_exit (JQ_hit (JQ_then (JC_seq ?_)))))
  refine JC_region (JL_1 rfl (op_move rfl) (JL_1 rfl (op_assign rfl) (JL_nil ?_)))
  refine JQ_then (JC_ret ?_)
  exact JQ_retP (Bs := [Is (.pointer (some ⟨i8, 0, none⟩))]) Tryz.results11 ⟨⟨_, rfl, subT⟩, trivial⟩ (i8, s) SubL.rfl' lessT
end Go.Proofs.YtfkmbdpnjcgimaaGreat

/- The contract of bodegahand.Pick: the remainder that is not negative. Own work. -/
namespace Go.Proofs.YtfkmbdpnjcgimaaGreat
open Go.RowKit
set_option linter.unusedVariables false
set_option linter.unusedSimpArgs false
theorem pick_emod (n k : Int) (h : 1 ≤ k) : (n.tmod k + k) % k = n % k := by
  rw [Int.add_emod_right, Int.tmod_eq_emod]
  split
  · show (n % k - 0) % k = _; rw [Int.sub_zero, Int.emod_emod_of_dvd _ (Int.dvd_refl k)]
  · rw [Int.natAbs_of_nonneg (by omega), Int.sub_emod, Int.emod_self]; simp
end Go.Proofs.YtfkmbdpnjcgimaaGreat
