/- Texts of this claim, laid together (part 7): walks of functions, what they compute, and plain laws of it. Own work. -/
import Derived.Test.YtfkmbdpnjcgimaaGreatM6EpochGuards
/- Plain laws: how the statements' world is laid. Own work. -/
namespace Go.Proofs.YtfkmbdpnjcgimaaGreat
open Go.RowKit
set_option linter.unusedVariables false
set_option linter.unusedSimpArgs false
set_option maxRecDepth 100000
theorem mem_sum {x : Nat} : ∀ {l : List Nat}, x ∈ l → x ≤ l.sum
  | y :: l, h => by
    rw [List.sum_cons]
    rcases List.mem_cons.1 h with rfl | h
    · omega
    · have := mem_sum h; omega
def aw0 : AW := ⟨0, fun _ => none, fun _ _ => none, fun _ => none, fun _ => false⟩
/-- While the pages are laid. -/
structure LI (n s0 : Nat) (is : List Nat) (B : Nat → BitVec 32) (A : Nat → Int × BitVec 32) (i : Nat) (H : List Pg) : Prop where
  inv : Inv n 1 B A ((is.map fun t => (s0, t)).drop i) H
  dn : ∀ (j t : Nat) p, j < i → is[j]? = some t → H[8 + 16 * s0 + t]? = some p → kindV p.d0 = 1 ∧ genV p.d0 = 1
  ep : ∀ p, H[1]? = some p → readE p = (0#32, 0)
structure LS (n s0 : Nat) (is : List Nat) (B : Nat → BitVec 32) (A : Nat → Int × BitVec 32) : Prop where
  S : ES n s0 is
  C : Coh n B A
  ow : (A s0).1 = 0
  bt : ∀ t, t ∈ is → bitB (A s0).2 t = true
theorem readE0 : readE (pgN 1) = (0#32, 0) := by decide +kernel
theorem lay_plain {n : Nat} (hn : 1 ≤ n ∧ n ≤ 5) : ∃ s0 w1 w2 pn nd W is B A P,
    (sB (newL (8 + 16 * n)) 0 (countN (104 + 16 * (n : Int))) = true → (mineW (newL (8 + 16 * n)) 0 1 (sV (newL (8 + 16 * n)) 0 (countN (104 + 16 * (n : Int))))).l < (headW (newL (8 + 16 * n)) 0 (sV (newL (8 + 16 * n)) 0 (countN (104 + 16 * (n : Int))))).l) ∧ missV (newL (8 + 16 * n)) (hdrL (104 + 16 * (n : Int))) = [] ∧
    acqV (newL (8 + 16 * n)) 0 1 (104 + 16 * (n : Int)) = ([], [w1, w2], s0, 0, true) ∧ ((0 ≤ w1.l ∧ w1.l ≤ 300) ∧ (0 ≤ w2.l ∧ w2.l ≤ 300)) ∧
    nodeV (comP (comP (newL (8 + 16 * n)) w1) w2) 0 = (pn, nd, true, 0) ∧ missV (comP (comP (newL (8 + 16 * n)) w1) w2) ((ownV nd.sg (countN (104 + 16 * (n : Int)))).map lineV) = [] ∧
    aloH (comP (comP (newL (8 + 16 * n)) w1) w2) 0 12 (ownV nd.sg (countN (104 + 16 * (n : Int)))) (ownV nd.sg (countN (104 + 16 * (n : Int)))) = ([], P, W, 0, true) ∧ (∀ w, w ∈ W → 0 ≤ w.l ∧ w.l ≤ 300) ∧
    P.length = 12 ∧ (∀ (j t : Nat), is[j]? = some t → ∃ p, P[j]? = some p ∧ p.l = 104 + 16 * (s0 : Int) + t ∧ lockB p = false ∧ kindV p.d0 = 0 ∧ genV p.d0 = 0) ∧
    LS n s0 is B A ∧ LI n s0 is B A 0 (W.foldl comP (comP (comP (newL (8 + 16 * n)) w1) w2)) := by
  obtain ⟨h0, c0⟩ := new_inv n (by omega)
  obtain ⟨q1, q2, q⟩ := acq_step h0 c0 (by omega) (show 0 < 6 by decide)
  rcases q with ⟨q, _⟩ | ⟨s0, w1, w2, hs, ho, e, ⟨l1, l2⟩, k1, k2⟩
  · exact absurd rfl (q 0 (by omega))
  obtain ⟨B, hB⟩ : ∃ B, updB (fun _ => 0#32) 0 (0#32 ||| BitVec.ofInt 32 1 <<< s0) = B := ⟨_, rfl⟩
  obtain ⟨A, hA⟩ : ∃ A, updA (fun _ => ((-1 : Int), 0#32)) s0 (((0 : Nat) : Int), 0#32) = A := ⟨_, rfl⟩
  have k1' : Inv n 0 B A [] (comP (comP (newL (8 + 16 * n)) w1) w2) := by rw [← hB, ← hA]; exact k1
  have k2' : Coh n B A := by rw [← hB, ← hA]; exact k2
  have hA0 : ∀ s, (A s).1 = (0 : Int) ↔ s = s0 := fun s => by
    rw [← hA]
    unfold updA
    by_cases e : s = s0
    · rw [if_pos e]; exact ⟨fun _ => e, fun _ => rfl⟩
    · rw [if_neg e]; exact ⟨fun h => by simp at h, fun h => absurd h e⟩
  have hAb : (A s0).2 = 0#32 := by rw [← hA]; unfold updA; rw [if_pos rfl]
  obtain ⟨pn, inc, hpn, hinc, hnode⟩ := k1'.node (show 0 < 6 by decide)
  have hcn : countN (104 + 16 * (n : Int)) = n := count_n (by omega)
  have hfr : 15 ≤ freN n A 0 := by
    unfold freN
    refine mem_sum (List.mem_map.2 ⟨s0, List.mem_range.2 hs, ?_⟩)
    rw [if_pos (show (A s0).1 = ((0 : Nat) : Int) from (hA0 s0).2 rfl), hAb]
    have h1 := frL_len usable0
    have h2 : popV 0#32 = 0 := by decide +kernel
    omega
  rcases alo_step (cnt := 12) k1' k2' (by omega) (show 0 < 6 by decide) (by decide) with ⟨r, _⟩ | ⟨_, pk, W, p1, p2, p3, p4, p5, A', p6, p7, p8⟩
  · omega
  have hpks : ∀ s t, (s, t) ∈ pk → s = s0 ∧ (1 ≤ t ∧ t ≤ 15) := fun s t h => by
    obtain ⟨a1, a2, a3, _⟩ := p3 s t h
    exact ⟨(hA0 s).1 a3, a2⟩
  have hpe : pk = (pk.map Prod.snd).map fun t => (s0, t) := by
    rw [List.map_map]
    conv => lhs; rw [← List.map_id pk]
    refine List.map_congr_left fun x hx => ?_
    obtain ⟨s, t⟩ := x
    have := (hpks s t hx).1
    subst this
    rfl
  obtain ⟨is, his⟩ : ∃ is, pk.map Prod.snd = is := ⟨_, rfl⟩
  rw [his] at hpe
  have hil : is.length = 12 := by rw [← his, List.length_map, p1]
  have hmem : ∀ t, t ∈ is → (s0, t) ∈ pk := fun t ht => by rw [hpe]; exact List.mem_map.2 ⟨t, ht, rfl⟩
  have hnd : is.Nodup := by
    rw [hpe] at p2
    rw [List.Nodup, List.pairwise_map] at p2
    exact p2.imp fun h e => h (by rw [e])
  have hcl : ∀ k : Nat, (∀ t : Nat, t < n → k ≠ 8 + 16 * t) → ∀ (V H : List Pg), (∀ w, w ∈ V → ∃ t : Nat, t < n ∧ w.l = 104 + 16 * (t : Int)) → (V.foldl comP H)[k]? = H[k]? := fun k hk V => by
    induction V with
    | nil => intro H _; rfl
    | cons w V ih =>
      intro H h
      obtain ⟨t, ht, hl⟩ := h w (List.mem_cons_self ..)
      rw [List.foldl_cons, ih _ fun v hv => h v (List.mem_cons_of_mem _ hv)]
      exact com_get (k := 8 + 16 * t) (by omega) (hk t ht)
  refine ⟨s0, w1, w2, pn, ndB (B 0) inc, W, is, B, A', pk.map (fun x => latP (comP (comP (newL (8 + 16 * n)) w1) w2) (lineV (x.1 : Int) + (x.2 : Int))), q1, q2, e, by omega, hnode, ?_, ?_, fun w hw => by obtain ⟨t, ht, e⟩ := p5 w hw; omega, by rw [List.length_map, p1], fun j t hj => ?_, ⟨⟨by omega, hs, hil, hnd, fun t ht => (hpks s0 t (hmem t ht)).2⟩, ⟨fun c j hc => by rw [p6]; exact k2'.bn c j hc, fun s hs => by rw [p6]; exact k2'.ow s hs, fun s hs j hj => ?_⟩, by rw [p6]; exact (hA0 s0).2 rfl, fun t ht => by rw [p7]; simp [hmem t ht]⟩, ⟨?_, fun j t p hj => absurd hj (Nat.not_lt_zero _), fun p hp => ?_⟩⟩
  · rw [hcn]; exact k1'.hdr0 (by omega) _
  · rw [hcn]; exact p4
  · have ht := (hpks s0 t (hmem t (List.mem_of_getElem? hj))).2
    obtain ⟨p, e1, e2, _⟩ := k1'.page (i := t) hs (by omega) ht.2
    have hpj : pk[j]? = some (s0, t) := by rw [hpe, List.getElem?_map, hj]; rfl
    obtain ⟨d1, d2⟩ := k1'.dp s0 t p hs ht.1 ht.2 e1
    have hb := (p3 s0 t (List.mem_of_getElem? hpj)).2.2.2
    have hg0 : 0 ≤ genV p.d0 := by rw [gen_eq]; omega
    refine ⟨p, by rw [List.getElem?_map, hpj]; exact congrArg some e2, ?_, k1'.un _ _ e1, d1.2 (.inl hb), by omega⟩
    rw [k1'.ln _ _ e1]; omega
  · rw [p7] at hj
    rcases Bool.or_eq_true_iff.1 hj with hj | hj
    · exact k2'.us s hs j hj
    · exact (hpks s j (of_decide_eq_true hj)).2
  · rw [List.drop_zero, ← hpe]
    exact p8.up' (by decide)
  · rw [hcl 1 (fun t _ => by omega) W _ p5, com_get (k := 8 + 16 * s0) (by omega) (by omega), com_get (k := 2) (by rw [l1]; rfl) (by decide)] at hp
    rw [newL_get _ _ _ hp]
    exact readE0
section
variable {n s0 i : Nat} {is : List Nat} {B : Nat → BitVec 32} {A : Nat → Int × BitVec 32} {H : List Pg}
theorem LI.step (hS : LS n s0 is B A) (h : LI n s0 is B A i H) {t : Nat} (ht : is[i]? = some t) {p : Pg} (hl : p.l = 104 + 16 * (s0 : Int) + t) (hg : genV p.d0 = 0) : LI n s0 is B A (i + 1) (comP H (tagP p ⟨1, genV p.d0 + 1, 0#32⟩)) := by
  have hr := hS.S.rng t (List.mem_of_getElem? ht)
  have hs := hS.S.s
  have hn5 := hS.S.n5
  have hlen := h.inv.len
  have hdr : (is.map fun t => (s0, t)).drop i = (s0, t) :: (is.map fun t => (s0, t)).drop (i + 1) := drop_at (by rw [List.getElem?_map, ht]; rfl)
  have hnd : (is.map fun t => (s0, t)).Nodup := by
    rw [List.Nodup, List.pairwise_map]
    exact hS.S.nod.imp fun h e => h (by injection e)
  have hni : (s0, t) ∉ (is.map fun t => (s0, t)).drop (i + 1) := by
    have h1 : ((is.map fun t => (s0, t)).drop i).Nodup := List.Pairwise.sublist (List.drop_sublist _ _) hnd
    rw [hdr] at h1
    exact (List.nodup_cons.1 h1).1
  have e1 : kindV (tagP p ⟨1, genV p.d0 + 1, 0#32⟩).d0 = 1 := kind_pack _ (by simp)
  have e2 : genV (tagP p ⟨1, genV p.d0 + 1, 0#32⟩).d0 = genV p.d0 + 1 := gen_pack _ (by simp only; omega)
  have hinv := h.inv
  rw [hdr] at hinv
  have hwl : (tagP p ⟨1, genV p.d0 + 1, 0#32⟩).l = 96 + ((8 + 16 * s0 + t : Nat) : Int) := by show p.l = _; omega
  refine ⟨page_step hinv hs hr (hS.bt t (List.mem_of_getElem? ht)) hni hl (by omega) (by decide) (by decide), fun j t' q hj hjt hq => ?_, fun q hq => ?_⟩
  · by_cases e : t' = t
    · subst e
      obtain ⟨w', a1, a2, a3, a4, a5, a6⟩ := h.inv.com (k := 8 + 16 * s0 + t') (w := tagP p ⟨1, genV p.d0 + 1, 0#32⟩) (by omega) hwl
      rw [a1, List.getElem?_set, if_pos rfl, if_pos (by omega)] at hq
      injection hq with hq
      subst hq
      rw [a6, e1, e2, hg]
      exact ⟨rfl, rfl⟩
    · have hji : j < i := by
        rcases Nat.lt_or_ge j i with h1 | h1
        · exact h1
        · have : j = i := by omega
          subst this
          rw [ht] at hjt
          injection hjt with hjt
          exact absurd hjt.symm e
      rw [com_get hwl (by omega)] at hq
      exact h.dn j t' q hji hjt hq
  · rw [com_get hwl (by omega)] at hq
    exact h.ep q hq
theorem LI.done (hS : LS n s0 is B A) (h : LI n s0 is B A 12 H) : WI n s0 0 is (is.map fun (t : Nat) => (⟨104 + 16 * (s0 : Int) + (t : Int), 1⟩ : Pt)) aw0 H := by
  have hd : (is.map fun t => (s0, t)).drop 12 = [] := List.drop_eq_nil_of_le (by rw [List.length_map, hS.S.len]; exact Nat.le_refl _)
  have hinv := h.inv
  rw [hd] at hinv
  have hn5 := hS.S.n5
  have hs := hS.S.s
  refine ⟨hS.S, by rw [List.length_map, hS.S.len], fun k i hk => by rw [List.getElem?_map, hk]; rfl, ⟨(fun c j k e h => by cases h), (fun c j c' j' k e e' h => by cases h), (fun k e h => by cases h), (fun k h => by cases h), (fun c e h => by cases h), (fun k e _ h => by cases h)⟩, (fun c e h => by cases h), Nat.le_refl _, ?_⟩
  have hN : ∃ N : Nat → Nd, ∀ c p, c < 6 → H[2 + c]? = some p → readN p = (N c, 0) ∧ ∃ inc, (0 ≤ inc ∧ inc ≤ 59) ∧ N c = ndB (B c) inc := by
    refine ⟨fun c => (readN (H.getD (2 + c) Pg.nil)).1, fun c p hc hp => ?_⟩
    obtain ⟨inc, h1, h2⟩ := hinv.nd c p hc hp
    have : H.getD (2 + c) Pg.nil = p := by rw [List.getD_eq_getElem?_getD, hp]; rfl
    dsimp only
    rw [this, h2]
    exact ⟨rfl, inc, h1, rfl⟩
  obtain ⟨N, hN⟩ := hN
  refine ⟨N, ⟨hinv.len, hinv.ln, hinv.un, h.ep, fun c p hc hp => (hN c p hc hp).1, ⟨(A s0).2, hS.C.us s0 hs, fun k i hk => hS.bt i (List.mem_of_getElem? hk), fun p hp => by rw [hinv.hd s0 p hs hp, hS.ow]⟩, fun k i p hk hp => ?_⟩, fun c hc => ?_⟩
  · have h12 : k < 12 := by have := (List.getElem?_eq_some_iff.1 hk).1; have := hS.S.len; omega
    have := h.dn k i p h12 hk hp
    exact ⟨this.1, this.2⟩
  · obtain ⟨p, hp⟩ := hinv.at_ (k := 2 + c) (by omega)
    obtain ⟨_, inc, h1, h2⟩ := hN c p hc hp
    rw [h2]
    refine ⟨rfl, rfl, (fun h => by cases h), h1, sg_le fun i hi => ?_, fun j hj => ?_⟩
    · have := ((hS.C.bn c i hc).1 hi).1; omega
    · match j, hj with
      | 0, _ | 1, _ | 2, _ | 3, _ => rfl
end
end Go.Proofs.YtfkmbdpnjcgimaaGreat

/- Contracts: the statements' world laid. Own work. -/
namespace Go.Proofs.YtfkmbdpnjcgimaaGreat
open Go.RowKit
set_option linter.unusedVariables false
set_option linter.unusedSimpArgs false
set_option maxRecDepth 100000
-- bodegaheap.Size: function 12
theorem SizeE_ok (n : Int) : FnP Tryz.prog 12 [Is (.int .i64 n)] (Is (.int .i64 (96 + ((8 + 16 * (1 + (n % 5).toNat) : Nat) : Int)))) := by
  have e : (96 + ((8 + 16 * (1 + (n % 5).toNat) : Nat) : Int)) = 104 + 16 * (1 + n % 5) := by omega
  rw [e]
  refine FnP.enter Tryz.func12 Tryz.ntmps12 rfl rfl ?_
  intro c hX
  refine JC_seq (JC_region (JL_1 rfl (op_assign rfl) (JL_nil ?_)))
  refine JQ_then (JC_seq ?_)
  refine JC_region (JL_1 rfl (op_move rfl) (JL_1 rfl (by ((refine op_call Tryz.call18 (PickH_ok _ _ ?_ ?_) ⟨evS, ⟨evS, trivial⟩⟩); all_goals (omega))) ?_))
  refine JL_1 rfl (op_add (Ev.rfl' rfl) (Ev.rfl' rfl) wrapT) ?_
  refine JL_1 rfl (op_mul (Ev.rfl' rfl) (Ev.rfl' rfl) wrapT) ?_
  refine JL_1 rfl (op_add (Ev.rfl' rfl) (Ev.rfl' rfl) wrapT) ?_
  refine JL_1 rfl (op_assign rfl) (JL_nil ?_)
  refine JQ_then (JC_ret ?_)
  refine JQ_ret1 Tryz.results12 rfl () (SubL.eq ?_) (List.nil_sublist _)
  rfl
@[reducible] def wldG (hp : Nat) (v1 v2 v3 : Value) : List VP := [Is (.pointer (some ⟨hp, 0, none⟩)), Is (.int .i64 0), Is (.int .i64 0), Is (.int .i64 0), Is (.int .i64 0), Is (.int .i64 0), Is (.int .i64 0), Is v1, Is v2, Is v3, Is (.int .i64 0)]
structure LR (n : Nat) where
  bw : Nat
  hp : Nat
  s0 : Nat
  z0 : WA
  z1 : WA
  z2 : WA
  is : List Nat
  tos : List Pt
  H : List Pg
  ok : WI n s0 0 is tos aw0 H
theorem rowPt (p : Pt) : ∀ φ v, (IsRow 1 2 (tPt.cells p)).ok φ v → (IsSl tPt [p]).ok φ v := fun φ v h => SubL.row (L := []) (T := tPt) (xs := [p]) (As := tPt.cells p) (by rfl) (by rfl) (show SubLs [] (tPt.cells p) (tPt.cells p) from ⟨SubL.rfl', SubL.rfl', trivial⟩) φ v (fun _ hx => nomatch hx) h
theorem all_new {p : Pg} (hl : 104 ≤ p.l ∧ p.l < 256) (h1 : lockB p = false) (h2 : kindV p.d0 = 0) (h3 : genV p.d0 = 0) : allP p 1 0#32 = (tagP p ⟨1, genV p.d0 + 1, 0#32⟩, 0) := by
  unfold allP
  rw [if_pos (by unfold heapB; simp; omega), if_neg (by rw [h1]; simp), if_neg (by rw [h2]; simp), if_neg (by rw [h3]; decide)]
-- bodegalaw26.lay: function 6
set_option maxHeartbeats 4000000 in
theorem lay_ok (size : Int) (n : Nat) (hn0 : 1 + (size % 5).toNat = n) : Fn Tryz.prog 6 [Is (.int .i64 size)] [] (fun r : LR n => IsTup [Is (.pointer (some ⟨r.bw, 0, none⟩)), Is (.bool true)]) (fun r => WL r.bw r.hp n r.z0 r.z1 r.z2 r.tos aw0 r.H) := by
  have hsize := SizeE_ok size
  rw [hn0] at hsize
  have hn : 1 ≤ n ∧ n ≤ 5 := by omega
  have hlines : 96 + ((8 + 16 * n : Nat) : Int) = 104 + 16 * (n : Int) := by omega
  have hsz : sizeB (104 + 16 * (n : Int)) = true := by unfold sizeB; simp; omega
  clear hn0
  obtain ⟨s0, w1, w2, pn, nd, W, is, B, A, P, q1, q2, q3, q4, q5, q6, q7, q8, q9, q10, hS, hL⟩ := lay_plain hn
  have hacq := AcquireW_ok (newL (8 + 16 * n)) 0 1 (104 + 16 * (n : Int)) (by decide) (by decide) hsz (fun _ => by rw [q2]; exact Nat.zero_le _) q1 _ q3
  have halo := AllocateW_ok (comP (comP (newL (8 + 16 * n)) w1) w2) 0 12 (104 + 16 * (n : Int)) pn nd _ (by decide) hsz (by decide) q5 q6 q7
  rw [← hlines] at hacq halo
  refine Fn.enterN Tryz.func6 Tryz.ntmps6 rfl rfl ?_
  intro c hX
  refine JC_seq (JC_region (JL_1 rfl (op_assign rfl) (JL_1 rfl (op_assign rfl) (JL_nil ?_))))
  refine JQ_then (JC_seq ?_)
  refine JC_region (JL_1 rfl (op_move rfl) (JL_1 rfl (op_call Tryz.call12 (hsize) ⟨evS, trivial⟩) ?_))
  (refine JL_s rfl (by ((refine op_callN Tryz.call11 (New_ok (8 + 16 * n) ?_) ⟨evS, trivial⟩); all_goals (omega))) ?_; intro i17)
  refine JL_1 rfl (op_buildN (qs := [(0, _)]) rfl rfl rfl rfl ⟨⟨rfl, _, (Ev.rfl' rfl), cellsT⟩, trivial⟩ (by rfl) nrmT) ?_
  (refine JL_n rfl (op_box (Ev.rfl' rfl) cellsT) ?_; intro i19)
  refine JL_1 rfl (op_assign rfl) (JL_nil ?_)
  refine JQ_then (JC_seq ?_)
  obtain ⟨hp, z0⟩ := i17
  dsimp only
  have hcom := Commit_ok hp (8 + 16 * n) z0 (96 + ((8 + 16 * n : Nat) : Int)) (newL (8 + 16 * n)) [w1, w2] (newL_len _) (by omega) (fun v hw' => by
    rcases List.mem_cons.1 hw' with h | h
    · subst h; omega
    · rcases List.mem_cons.1 h with h | h
      · subst h; omega
      · cases h)
  refine JC_dr rfl (by kernel_rfl) ?_
  refine JD_stretch 15 (by kernel_rfl) ?_
  refine JW_1 (op_move rfl) (JW_1 (by exact op_nilCheck (Ev.rfl' rfl)) ?_)
  refine JW_1 (by exact op_fieldPtr (k := 0) (Ev.rfl' rfl) rfl rfl rfl rfl) ?_
  refine JW_1 (by exact op_loadPtr (Ev.rfl' rfl) memT (by rfl) (by rfl) (by rfl)) ?_
  refine JW_1 (by exact op_nilCheck (Ev.rfl' rfl)) ?_
  refine JW_1 (by exact op_fieldPtr (k := 1) (Ev.rfl' rfl) rfl rfl rfl rfl) ?_
  refine JW_1 (by exact op_loadPtr (Ev.rfl' rfl) memT (by rfl) (by rfl) (by rfl)) ?_
  refine JW_1 (op_buildN (qs := [(0, _), (1, _), (2, _), (3, _)]) rfl rfl rfl rfl ⟨⟨rfl, _, (Ev.rfl' rfl), cellsT⟩, ⟨⟨rfl, _, (Ev.rfl' rfl), cellsT⟩, ⟨⟨rfl, _, (Ev.rfl' rfl), cellsT⟩, ⟨⟨rfl, _, (Ev.rfl' rfl), cellsT⟩, trivial⟩⟩⟩⟩ (by rfl) nrmT) ?_
  refine JW_1 (op_move rfl) (JW_1 (by exact op_nilCheck (Ev.rfl' rfl)) ?_)
  refine JW_1 (by exact op_fieldPtr (k := 0) (Ev.rfl' rfl) rfl rfl rfl rfl) ?_
  refine JW_1 (by exact op_loadPtr (Ev.rfl' rfl) memT (by rfl) (by rfl) (by rfl)) ?_
  refine JW_1 (by exact op_nilCheck (Ev.rfl' rfl)) ?_
  refine JW_1 (by exact op_fieldPtr (k := 0) (Ev.rfl' rfl) rfl rfl rfl rfl) ?_
  refine JW_1 (by exact op_loadPtr (Ev.rfl' rfl) memT (by rfl) (by rfl) (by rfl)) ?_
  refine ⟨rfl, ?_⟩
  (refine JD_s (by kernel_rfl) rfl rfl (op_callLO (by (try simp only [List.append_eq, List.nil_append, List.cons_append]); exact lendT) Tryz.call13 (hacq) ⟨evS, ⟨evS, trivial⟩⟩ (fun _ => pure_r1) (fun _ => ⟨pureI_buf pure_pg, trivial⟩)) ?_; intro i36)
  refine JD_stretch 11 (by kernel_rfl) ?_
  refine JW_1 (op_move rfl) (JW_1 (op_extract (Ev.rfl' rfl) rfl) (JW_1 (op_extract (Ev.rfl' rfl) rfl) (JW_1 (op_extract (Ev.rfl' rfl) rfl) (JW_1 (op_extract (Ev.rfl' rfl) rfl) (JW_1 (op_extract (Ev.rfl' rfl) rfl) (JW_1 (op_assign rfl) (JW_1 (op_assign rfl) (JW_1 (op_assign rfl) (JW_1 (op_assign rfl) (JW_1 (op_assign rfl) ?_))))))))))
  refine ⟨rfl, ?_⟩
  refine JD_end ?_
  refine JQ_then (JC_seq (JC_seq ?_))
  refine JC_region (JL_1 rfl (op_move rfl) (JL_1 rfl (op_not (Ev.rfl' rfl)) (JL_1 rfl (op_move rfl) ?_)))
  (refine JL_i0 rfl rfl rfl (fun hg => (by have hg0 := hg; (try simp at hg); exact op_moveE (Ev.rfl' rfl))) ?_)
  (refine JL_i0 rfl rfl rfl (fun hg => (by have hg0 := hg; (try simp at hg); exact op_neq evG evG)) ?_)
  refine JL_1 rfl (op_or (Ev.rfl' rfl) rfl (fun h => by exact SubL.rfl')) ?_
  refine JL_nil (JQ_then ?_)
  refine JC_cond (Ev.rfl' rfl) (fun h3 => ?_) (fun h3 => ?_)
  · exact absurd h3 (by simp)
  refine JC_skip (JQ_then (JC_seq ?_))
  refine JC_freeze hX (v := slV 2 i36) replT ?_
  refine JC_set 6 (IsSl tPg [w1, w2]) rfl (SubL.fact memT) ?_
  refine JC_region (JL_1 rfl (op_move rfl) (JL_1 rfl (by exact op_nilCheck (Ev.rfl' rfl)) ?_))
  refine JL_1 rfl (by exact op_fieldPtr (k := 0) (Ev.rfl' rfl) rfl rfl rfl rfl) ?_
  refine JL_1 rfl (by exact op_loadPtr (Ev.rfl' rfl) memT (by rfl) (by rfl) (by rfl)) ?_
  refine JL_1 rfl (op_move rfl) ?_
  (refine JL_s rfl (op_callT2 drop1T drop1T Tryz.call14 (hcom) ⟨evS, ⟨evS, trivial⟩⟩) ?_; intro i53)
  refine JL_nil ?_
  refine JQ_then (JC_seq ?_)
  refine JC_dr rfl (by kernel_rfl) ?_
  refine JD_stretch 15 (by kernel_rfl) ?_
  refine JW_1 (op_move rfl) (JW_1 (by exact op_nilCheck (Ev.rfl' rfl)) ?_)
  refine JW_1 (by exact op_fieldPtr (k := 0) (Ev.rfl' rfl) rfl rfl rfl rfl) ?_
  refine JW_1 (by exact op_loadPtr (Ev.rfl' rfl) memT (by rfl) (by rfl) (by rfl)) ?_
  refine JW_1 (by exact op_nilCheck (Ev.rfl' rfl)) ?_
  refine JW_1 (by exact op_fieldPtr (k := 1) (Ev.rfl' rfl) rfl rfl rfl rfl) ?_
  refine JW_1 (by exact op_loadPtr (Ev.rfl' rfl) memT (by rfl) (by rfl) (by rfl)) ?_
  refine JW_1 (op_buildN (qs := [(0, _), (1, _), (2, _)]) rfl rfl rfl rfl ⟨⟨rfl, _, (Ev.rfl' rfl), cellsT⟩, ⟨⟨rfl, _, (Ev.rfl' rfl), cellsT⟩, ⟨⟨rfl, _, (Ev.rfl' rfl), cellsT⟩, trivial⟩⟩⟩ (by rfl) nrmT) ?_
  refine JW_1 (op_move rfl) (JW_1 (by exact op_nilCheck (Ev.rfl' rfl)) ?_)
  refine JW_1 (by exact op_fieldPtr (k := 0) (Ev.rfl' rfl) rfl rfl rfl rfl) ?_
  refine JW_1 (by exact op_loadPtr (Ev.rfl' rfl) memT (by rfl) (by rfl) (by rfl)) ?_
  refine JW_1 (by exact op_nilCheck (Ev.rfl' rfl)) ?_
  refine JW_1 (by exact op_fieldPtr (k := 0) (Ev.rfl' rfl) rfl rfl rfl rfl) ?_
  refine JW_1 (by exact op_loadPtr (Ev.rfl' rfl) memT (by rfl) (by rfl) (by rfl)) ?_
  refine ⟨rfl, ?_⟩
  (refine JD_s (by kernel_rfl) rfl rfl (op_callLO (by (try simp only [List.append_eq, List.nil_append, List.cons_append]); exact lendT) Tryz.call15 (halo) ⟨evS, ⟨evS, trivial⟩⟩ (fun _ => pure_r1) (fun _ => ⟨pureI_buf pure_pg, pureI_buf pure_pg, trivial⟩)) ?_; intro i70)
  refine JD_stretch 11 (by kernel_rfl) ?_
  refine JW_1 (op_move rfl) (JW_1 (op_extract (Ev.rfl' rfl) rfl) (JW_1 (op_extract (Ev.rfl' rfl) rfl) (JW_1 (op_extract (Ev.rfl' rfl) rfl) (JW_1 (op_extract (Ev.rfl' rfl) rfl) (JW_1 (op_extract (Ev.rfl' rfl) rfl) (JW_1 (op_assign rfl) (JW_1 (op_assign rfl) (JW_1 (op_assign rfl) (JW_1 (op_assign rfl) (JW_1 (op_assign rfl) ?_))))))))))
  refine ⟨rfl, ?_⟩
  refine JD_end ?_
  refine JQ_then (JC_seq (JC_seq ?_))
  refine JC_region (JL_1 rfl (op_move rfl) (JL_1 rfl (op_not (Ev.rfl' rfl)) (JL_1 rfl (op_move rfl) ?_)))
  (refine JL_i0 rfl rfl rfl (fun hg => (by have hg0 := hg; (try simp at hg); exact op_moveE (Ev.rfl' rfl))) ?_)
  (refine JL_i0 rfl rfl rfl (fun hg => (by have hg0 := hg; (try simp at hg); exact op_neq evG evG)) ?_)
  refine JL_1 rfl (op_or (Ev.rfl' rfl) rfl (fun h => by exact SubL.rfl')) ?_
  refine JL_1 rfl (op_move rfl) ?_
  (refine JL_i0 rfl rfl rfl (fun hg => (by have hg0 := hg; (try simp at hg); exact op_moveE (Ev.rfl' rfl))) ?_)
  (refine JL_i0 rfl rfl rfl (fun hg => (by have hg0 := hg; (try simp at hg); exact op_lenLit evG rfl)) ?_)
  (refine JL_i0 rfl rfl rfl (fun hg => (by have hg0 := hg; (try simp at hg); exact op_neq evG evG)) ?_)
  refine JL_1 rfl (op_or (Ev.rfl' rfl) rfl (fun h => by exact SubL.rfl')) ?_
  refine JL_nil (JQ_then ?_)
  refine JC_cond (Ev.rfl' rfl) (fun h7 => ?_) (fun h7 => ?_)
  · exact absurd h7 (by simp [q9])
  refine JC_skip (JQ_then (JC_seq ?_))
  obtain ⟨j1, j2⟩ := i70
  dsimp only
  refine JC_freeze hX (v := slV P.length j1) replT ?_
  refine JC_freeze hX (v := slV W.length j2) replT ?_
  refine JC_set 6 (IsSl tPg W) rfl (SubL.fact memT) ?_
  have hcom := Commit_ok hp (8 + 16 * n) z0 (96 + ((8 + 16 * n : Nat) : Int)) (comP (comP (newL (8 + 16 * n)) w1) w2) W (by rw [comP_len, comP_len, newL_len]) (by omega) (fun w hw => by have := q8 w hw; omega)
  refine JC_region (JL_1 rfl (op_move rfl) (JL_1 rfl (by exact op_nilCheck (Ev.rfl' rfl)) ?_))
  refine JL_1 rfl (by exact op_fieldPtr (k := 0) (Ev.rfl' rfl) rfl rfl rfl rfl) ?_
  refine JL_1 rfl (by exact op_loadPtr (Ev.rfl' rfl) memT (by rfl) (by rfl) (by rfl)) ?_
  refine JL_1 rfl (op_move rfl) ?_
  (refine JL_s rfl (op_callT2 drop1T drop1T Tryz.call14 (hcom) ⟨evS, ⟨evS, trivial⟩⟩) ?_; intro i92)
  refine JL_nil ?_
  refine JQ_then (JC_seq (JC_seq ?_))
  refine JC_set 11 (IsSl tPg P) rfl (SubL.fact memT) ?_
  refine JC_buf0 3 tI64 (JC_buf0 39 tPt (JC_buf0 4 tBool (JC_region (JL_1 rfl (op_assign rfl) (JL_nil ?_)))))
  refine JQ_then (JC_block ?_)
  refine JC_loopP (fun z : (Nat × List Pg) × (WA × WA × WA) => z.1.1 ≤ 12 ∧ LI n s0 is B A z.1.1 z.1.2) (fun z => [(4, Is (.pointer (some ⟨i19, 0, none⟩))), (11, IsSl tPg P), (12, Is (.int .i64 (z.1.1 : Nat)))]) (fun z => [blk i19 36 (wldG hp (slV (List.replicate z.1.1 (-1 : Int)).length z.2.1) (slV ((is.map fun (t : Nat) => (⟨104 + 16 * (s0 : Int) + (t : Int), 1⟩ : Pt)).take z.1.1).length z.2.2.1) (slV (List.replicate z.1.1 false).length z.2.2.2)), blk hp 58 (heapC (slV (8 + 16 * n) z0) (96 + ((8 + 16 * n : Nat) : Int))), buf (slV (8 + 16 * n) z0) 51 tPg z.1.2, buf (slV (List.replicate z.1.1 (-1 : Int)).length z.2.1) 3 tI64 (List.replicate z.1.1 (-1 : Int)), buf (slV ((is.map fun (t : Nat) => (⟨104 + 16 * (s0 : Int) + (t : Int), 1⟩ : Pt)).take z.1.1).length z.2.2.1) 39 tPt ((is.map fun (t : Nat) => (⟨104 + 16 * (s0 : Int) + (t : Int), 1⟩ : Pt)).take z.1.1), buf (slV (List.replicate z.1.1 false).length z.2.2.2) 4 tBool (List.replicate z.1.1 false)]) (fun z => 12 - z.1.1) ((0, W.foldl comP (comP (comP (newL (8 + 16 * n)) w1) w2)), (none, 0), (none, 0), (none, 0)) ⟨Nat.zero_le _, hL⟩ esubT lessT ?_
  rintro ⟨⟨i, H⟩, a1, a2, a3⟩ ⟨hi, hI⟩
  dsimp only at hi hI ⊢
  refine JC_seq (JC_seq ?_)
  refine JC_region (JL_1 rfl (op_move rfl) (JL_1 rfl (op_move rfl) (JL_1 rfl (by exact op_len (Ev.rfl' rfl) rfl) ?_)))
  refine JL_1 rfl (op_lss (Ev.rfl' rfl) (Ev.rfl' rfl)) (JL_nil (JQ_then ?_))
  refine JC_cond (Ev.rfl' rfl) (fun h11 => ?_) (fun h11 => ?_)
  · have hlt : i < 12 := by have := of_decide_eq_true h11; omega
    clear h11
    obtain ⟨t, ht⟩ : ∃ t, is[i]? = some t := ⟨_, List.getElem?_eq_getElem (by have := hS.S.len; omega)⟩
    have htr := hS.S.rng t (List.mem_of_getElem? ht)
    have hs0 := hS.S.s
    obtain ⟨p, hz, p1, p2, p3, p4⟩ := q10 i t ht
    have hal := AllocateP_ok p 1 0#32 (by decide)
    rw [all_new (by omega) p2 p3 p4] at hal
    obtain ⟨w, hw⟩ : ∃ w, tagP p ⟨1, genV p.d0 + 1, 0#32⟩ = w := ⟨_, rfl⟩
    have hwl : w.l = 104 + 16 * (s0 : Int) + t := by rw [← hw]; exact p1
    have hwg : genV w.d0 = 1 := by rw [← hw]; exact (gen_pack _ (by simp only; omega)).trans (by dsimp only; omega)
    have hstep := hI.step hS ht p1 p4
    rw [hw] at hstep hal
    dsimp only at hal
    have hlen := hI.inv.len
    have hcom := Commit_ok hp (8 + 16 * n) z0 (96 + ((8 + 16 * n : Nat) : Int)) H [w] hlen (by omega) (fun v hv => by rw [List.mem_singleton.1 hv]; omega)
    have hmt : (is.map fun (t : Nat) => (⟨104 + 16 * (s0 : Int) + (t : Int), 1⟩ : Pt)).take (i + 1) = (is.map fun (t : Nat) => (⟨104 + 16 * (s0 : Int) + (t : Int), 1⟩ : Pt)).take i ++ [⟨w.l, genV w.d0⟩] := by
      rw [List.take_add_one, List.getElem?_map, ht, hwl, hwg]; rfl
    have hr1 : List.replicate (i + 1) (-1 : Int) = List.replicate i (-1 : Int) ++ [-1] := List.replicate_succ'
    have hr2 : List.replicate (i + 1) false = List.replicate i false ++ [false] := List.replicate_succ'
    have hl1 : (List.replicate i (-1 : Int)).length ≤ 12 := by simp; omega
    have hl2 : (List.replicate i false).length ≤ 12 := by simp; omega
    have hl3 : ((is.map fun (t : Nat) => (⟨104 + 16 * (s0 : Int) + (t : Int), 1⟩ : Pt)).take i).length ≤ 12 := by rw [List.length_take]; omega
    refine JC_skip (JQ_then (JC_seq (JC_block (JC_seq ?_))))
    refine JC_region (JL_1 rfl (op_move rfl) (JL_1 rfl (op_move rfl) (JL_1 rfl (by exact op_index (j := _) (Ev.rfl' rfl) (Ev.rfl' rfl) rfl rfl (by rfl) hz) ?_)))
    refine JL_1 rfl (by exact op_loadRefsN (n := 9) (Ev.rfl' rfl) rfl rfl rfl (by rfl) nrmT) ?_
    refine JL_1 rfl (op_call Tryz.call16 (hal) ⟨evS, ⟨evS, ⟨evS, trivial⟩⟩⟩) ?_
    refine JL_1 rfl (op_move rfl) (JL_1 rfl (op_extract (Ev.rfl' rfl) rfl) (JL_1 rfl (op_extract (Ev.rfl' rfl) rfl) ?_))
    (refine JL_n rfl (op_allocN rfl nrmT rfl) ?_; intro i13)
    refine JL_s0 (op_storeN (Ev.rfl' rfl) (Ev.rfl' rfl) cellsT replT nrmT (by rfl) (by rfl) (by rfl)) ?_
    refine JL_1 rfl (op_assign rfl) (JL_nil ?_)
    refine JQ_then (JC_seq (JC_seq ?_))
    refine JC_region (JL_1 rfl (op_move rfl) (JL_1 rfl (op_neq (Ev.rfl' rfl) (Ev.rfl' rfl)) (JL_nil (JQ_then ?_))))
    refine JC_cond (Ev.rfl' rfl) (fun h14 => ?_) (fun h14 => ?_)
    · exact absurd h14 (by simp)
    refine JC_skip (JQ_then (JC_seq ?_))
    refine JC_dr rfl (by kernel_rfl) ?_
    refine JD_stretch 6 (by kernel_rfl) ?_
    refine JW_1 (op_move rfl) (JW_1 (by exact op_nilCheck (Ev.rfl' rfl)) ?_)
    refine JW_1 (by exact op_fieldPtr (k := 0) (Ev.rfl' rfl) rfl rfl rfl rfl) ?_
    refine JW_1 (by exact op_loadPtr (Ev.rfl' rfl) memT (by rfl) (by rfl) (by rfl)) ?_
    refine JW_1 (by exact op_loadPtrsN (n := 9) (Ev.rfl' rfl) memT (by rfl) (by rfl) (by rfl) (by rfl) nrmT) ?_
    refine JW_1 (op_buildSlice (size := 9) (qs := [(0, _)]) rfl rfl rfl ⟨⟨rfl, _, (Ev.rfl' rfl), cellsT⟩, trivial⟩ (by rfl) (by rfl)) ?_
    refine ⟨rfl, ?_⟩
    (refine JD_s (by kernel_rfl) rfl rfl (op_callT2 drop1T drop1T Tryz.call14 (hcom) ⟨evS, ⟨evS, trivial⟩⟩) ?_; intro i115)
    refine JD_end ?_
    refine JQ_then (JC_seq ?_)
    refine JC_dr rfl (by kernel_rfl) ?_
    refine JD_fl (its := []) (JF_1f 0 rfl (by kernel_rfl) (fun _ => (op_move rfl)) ?_)
    refine JF_1 1 rfl (by kernel_rfl) (op_move rfl) ?_
    refine JF_1 2 rfl (by kernel_rfl) (by exact op_nilCheck (Ev.rfl' rfl)) ?_
    refine JF_1 3 rfl (by kernel_rfl) (by exact op_fieldPtr (k := 8) (Ev.rfl' rfl) rfl rfl rfl rfl) ?_
    refine JF_1 4 rfl (by kernel_rfl) (by exact op_loadPtr (Ev.rfl' rfl) memT (by rfl) (by rfl) (by rfl)) ?_
    refine JF_1 5 rfl (by kernel_rfl) (by exact op_loadPtrsN (n := 9) (Ev.rfl' rfl) memT (by rfl) (by rfl) (by rfl) (by rfl) nrmT) ?_
    refine JF_1 6 rfl (by kernel_rfl) (op_call Tryz.call17 (At_ok _) ⟨evS, trivial⟩) ?_
    refine JF_1 7 rfl (by kernel_rfl) (OpP.sub (op_buildSlice (Rs := tPt.cells ⟨w.l, genV w.d0⟩) (size := 2) (qs := [(0, _)]) rfl rfl rfl ⟨⟨rfl, _, (Ev.rfl' rfl), cellsT⟩, trivial⟩ (by rfl) (by rfl)) (rowPt _)) ?_
    (refine JF_b 8 [1, 2, 3, 4, 5, 6, 7, 8] rfl (by kernel_rfl) (fun c' => by exact op_app (T := tPt) (ys := [⟨w.l, genV w.d0⟩]) (Ev.rfl' rfl) (fun _ => replT) (Ev.rfl' rfl) (by exact appT rfl rfl rfl) lenT) ?_; intro i124)
    refine JF_1 9 rfl (by kernel_rfl) (by exact op_nilCheck (Ev.rfl' rfl)) ?_
    refine JF_1 10 rfl (by kernel_rfl) (by exact op_fieldPtr (k := 8) (Ev.rfl' rfl) rfl rfl rfl rfl) ?_
    refine JF_b0 11 [0, 1, 2, 3, 4, 5, 6, 7, 8, 9, 10, 11] rfl (by kernel_rfl) (fun c' => by exact op_store (Ev.rfl' rfl) (Ev.rfl' rfl) cellsT replT (by rfl) (by rfl) (by rfl)) ?_
    refine JF_end (by kernel_rfl) rfl ?_
    refine JQ_then (JC_seq ?_)
    refine JC_region (JL_1 rfl (op_move rfl) (JL_1 rfl (op_move rfl) (JL_1 rfl (by exact op_nilCheck (Ev.rfl' rfl)) ?_)))
    refine JL_1 rfl (by exact op_fieldPtr (k := 7) (Ev.rfl' rfl) rfl rfl rfl rfl) ?_
    refine JL_1 rfl (by exact op_loadPtr (Ev.rfl' rfl) memT (by rfl) (by rfl) (by rfl)) ?_
    refine JL_1 rfl (op_buildSlice (size := 1) (qs := [(0, _)]) rfl rfl rfl ⟨⟨rfl, _, (Ev.rfl' rfl), cellsT⟩, trivial⟩ (by rfl) (by rfl)) ?_
    (refine JL_s rfl (op_app (Ev.rfl' rfl) (fun _ => replT) (by exact Ev.sub rfl (by exact SubL.row (xs := [(-1 : Int)]) (by rfl) (by rfl) subsT)) (by exact appT rfl rfl rfl) lenT) ?_; intro i133)
    refine JL_1 rfl (by exact op_nilCheck (Ev.rfl' rfl)) ?_
    refine JL_1 rfl (by exact op_fieldPtr (k := 7) (Ev.rfl' rfl) rfl rfl rfl rfl) ?_
    refine JL_s0 (op_storeN (Ev.rfl' rfl) (Ev.rfl' rfl) cellsT replT nrmT (by rfl) (by rfl) (by rfl)) ?_
    refine JL_nil (JQ_then (JC_region (JL_1 rfl (op_move rfl) (JL_1 rfl (op_move rfl) (JL_1 rfl (by exact op_nilCheck (Ev.rfl' rfl)) ?_)))))
    refine JL_1 rfl (by exact op_fieldPtr (k := 9) (Ev.rfl' rfl) rfl rfl rfl rfl) ?_
    refine JL_1 rfl (by exact op_loadPtr (Ev.rfl' rfl) memT (by rfl) (by rfl) (by rfl)) ?_
    refine JL_1 rfl (op_buildSlice (size := 1) (qs := [(0, _)]) rfl rfl rfl ⟨⟨rfl, _, (Ev.rfl' rfl), cellsT⟩, trivial⟩ (by rfl) (by rfl)) ?_
    (refine JL_s rfl (op_app (Ev.rfl' rfl) (fun _ => replT) (by exact Ev.sub rfl (by exact SubL.row (xs := [false]) (by rfl) (by rfl) subsT)) (by exact appT rfl rfl rfl) lenT) ?_; intro i142)
    refine JL_1 rfl (by exact op_nilCheck (Ev.rfl' rfl)) ?_
    refine JL_1 rfl (by exact op_fieldPtr (k := 9) (Ev.rfl' rfl) rfl rfl rfl rfl) ?_
    refine JL_s0 (op_storeN (Ev.rfl' rfl) (Ev.rfl' rfl) cellsT replT nrmT (by rfl) (by rfl) (by rfl)) ?_
    refine JL_nil ?_
    refine JQ_block (JQ_then ?_)
    refine JC_region (JL_1 rfl (op_move rfl) (JL_1 rfl (op_add (Ev.rfl' rfl) (Ev.rfl' rfl) wrapT) ?_))
    refine JL_1 rfl (op_assign rfl) (JL_nil ?_)
    exact JQ_roundP ((i + 1, comP H w), i133, i124, i142) ⟨by dsimp only; omega, hstep⟩ (by dsimp only; omega) esubT (by dsimp only; rw [hmt, hr1, hr2]; exact lessT)
  have hie : i = 12 := by have := of_decide_eq_false h11; omega
  clear h11
  subst hie
  have hml : (is.map fun (t : Nat) => (⟨104 + 16 * (s0 : Int) + (t : Int), 1⟩ : Pt)).length = 12 := by rw [List.length_map]; exact hS.S.len
  have hmt : (is.map fun (t : Nat) => (⟨104 + 16 * (s0 : Int) + (t : Int), 1⟩ : Pt)).take 12 = (is.map fun (t : Nat) => (⟨104 + 16 * (s0 : Int) + (t : Int), 1⟩ : Pt)) := List.take_of_length_le (by omega)
  rw [hmt, hml]
  have hW := hI.done hS
  obtain ⟨tos, htos⟩ : ∃ tos, (is.map fun (t : Nat) => (⟨104 + 16 * (s0 : Int) + (t : Int), 1⟩ : Pt)) = tos := ⟨_, rfl⟩
  rw [htos] at hW ⊢
  refine JC_freeze hX (v := slV 12 a2) (T := tPt) (xs := tos) replT ?_
  refine JC_blkSub (b := i19) (As' := wldC hp (pinI aw0) a1 a3 tos 0) replT subsT ?_
  rw [hlines]
  refine JC_exit (JQ_then_exit (JQ_then_exit (JQ_hit (JQ_then (JC_seq ?_)))))
  refine JC_region (JL_1 rfl (op_move rfl) (JL_1 rfl (op_assign rfl) (JL_1 rfl (op_assign rfl) (JL_nil ?_))))
  refine JQ_then (JC_ret ?_)
  exact JQ_retP (Bs := [Is (.pointer (some ⟨i19, 0, none⟩)), Is (.bool true)]) Tryz.results6 ⟨⟨_, rfl, subT⟩, ⟨⟨_, rfl, subT⟩, trivial⟩⟩ ⟨i19, hp, s0, z0, a1, a3, is, tos, H, hW⟩ SubL.rfl' lessT
end Go.Proofs.YtfkmbdpnjcgimaaGreat

/- The law EpochFrees: its walk. Own work. -/
namespace Go.Proofs.YtfkmbdpnjcgimaaGreat
open Go.RowKit
set_option linter.unusedVariables false
set_option linter.unusedSimpArgs false
set_option maxRecDepth 100000
-- bodegalaw26.awake: function 5
theorem awakeE_ok : FnP Tryz.prog 5 [] (Is (.bool true)) := by
  refine FnP.enter Tryz.func5 Tryz.ntmps5 rfl rfl ?_
  intro c hX
  refine JC_seq (JC_region (JL_1 rfl (op_assign rfl) (JL_nil ?_)))
  refine JQ_then (JC_seq ?_)
  refine JC_region (JL_1 rfl (op_call Tryz.call10 (Safe_ok (5#32) (3#32)) ⟨evS, ⟨evS, trivial⟩⟩) ?_)
  refine JL_1 rfl (op_move rfl) ?_
  (refine JL_i0 rfl rfl rfl (fun hg => (by have hg0 := hg; (try simp at hg); exact op_call Tryz.call10 (Safe_ok (4#32) (3#32)) ⟨evS, ⟨evS, trivial⟩⟩)) ?_)
  (refine JL_i0 rfl rfl rfl (fun hg => (by have hg0 := hg; (try simp at hg); exact op_not evG)) ?_)
  refine JL_1 rfl (op_and (Ev.rfl' rfl) rfl (fun h => by exact SubL.rfl')) ?_
  refine JL_1 rfl (op_assign rfl) (JL_nil ?_)
  refine JQ_then (JC_ret ?_)
  refine JQ_ret1 Tryz.results5 rfl () (SubL.eq ?_) (List.nil_sublist _)
  rw [show (safeV 5#32 3#32 && !safeV 4#32 3#32) = true by decide +kernel]
@[reducible] def DoR (n s0 G : Nat) (is : List Nat) (tos : List Pt) (a : AW) : Type := {H' : List Pg // WI n s0 (G + 1) is tos a H'}
theorem doA_ok (bw hp n s0 G : Nat) (z0 z1 z2 : WA) (is : List Nat) (tos : List Pt) (a : AW) (H : List Pg) (m : Mw) (t kd cl ot : Nat) (h : WI n s0 G is tos a H) (hG : G ≤ 900) (ht : t ≤ 1000) (hkd : m.kind % 8 = (kd : Int)) (hcl : m.client % 6 = (cl : Int)) (hot : m.for_ % 6 = (ot : Int)) :
    Fn Tryz.prog 7 [Is (.pointer (some ⟨bw, 0, none⟩)), IsMw m, Is (.int .i64 (t : Nat))] (WL bw hp n z0 z1 z2 tos a H) (fun _ : DoR n s0 G is tos (a.move kd cl ot (t % 12)) => Is (.bool true)) (fun i => WL bw hp n z0 z1 z2 tos (a.move kd cl ot (t % 12)) i.1) := by
  have h8 : kd < 8 := by omega
  match kd, h8, hkd with
  | 0, _, hkd => exact do0_ok bw hp n s0 G z0 z1 z2 is tos a H m t cl h hG hcl hkd
  | 1, _, hkd => exact do1_ok bw hp n s0 G z0 z1 z2 is tos a H m t cl ot h hG hcl hot hkd
  | 2, _, hkd => exact do2_ok bw hp n s0 G z0 z1 z2 is tos a H m t cl ot h hG hcl hot hkd
  | 3, _, hkd => exact do3_ok bw hp n s0 G z0 z1 z2 is tos a H m t cl ot h hG hcl hot hkd
  | 4, _, hkd => exact do4_ok bw hp n s0 G z0 z1 z2 is tos a H m t cl ot h hG ht hcl hot hkd
  | 5, _, hkd => exact do5_ok bw hp n s0 G z0 z1 z2 is tos a H m t cl ot h hG ht hcl hot hkd
  | 6, _, hkd => exact do6_ok bw hp n s0 G z0 z1 z2 is tos a H m t cl ot h hG hcl hot hkd
  | 7, _, hkd => exact do7_ok bw hp n s0 G z0 z1 z2 is tos a H m t cl ot h hG hcl hot hkd
-- bodegalaw26.EpochFrees: function 3
end Go.Proofs.YtfkmbdpnjcgimaaGreat

/- Rules: a struct built in a stretch out of what the stretch has made; an array within a row of one's own. Own work. -/
namespace Go.Proofs.YtfkmbdpnjcgimaaGreat
open Go.RowKit
set_option linter.unusedVariables false
set_option linter.unusedSimpArgs false
section
variable {P : Program} {c : Ctx} {A : Nat → Option VP} {L : List Item} {d : Option Tmp} {ty : TypeId} {pos : String} {af : Array Edge} {g : Option (Nat × Bool)}
/-- The place of an array's element within a row of one's own. -/
theorem op_indexArrBuf {α : Type} {T : Ty α} {xs : List α} {i : Option Addr × Nat} {n : Nat} {e e0 : TypeId} {x y : Operand} {t : TypeId} {o len sz k : Nat} {j : Int} {q : IntKind} (hx : Ev A L x (Is (bpt i o))) (hL : buf (slV n i) e0 T xs ∈ L) (h0 : 0 < xs.length) (hy : Ev A L y (Is (.int q j))) (hu : P.underlying t = some (.array len e)) (hs : (P.info? e).map (·.size) = some sz) (hj : j = k) (hk : k < len) :
    OpP P c ⟨d, .indexAddr t x y, ty, pos, af, g⟩ A L (Is (bpt i (o + k * sz))) :=
  opp fun φ a w hm he => by
    have h1 : a.eval x = bpt i o := he x (by simp [Op.operands]) _ hx
    have h6 : a.eval y = .int q j := he y (by simp [Op.operands]) _ hy
    obtain ⟨gg, cap, cur, rfl, _⟩ := own_buf hm hL h0
    refine ⟨_, ?_, rfl⟩
    have h7 : (0 : Int) ≤ j ∧ j < (len : Int) := by omega
    have h8 : j.toNat = k := by omega
    simp only [execOp, h1, h6, bpt]
    refine run_val ?_
    simp only [Instr.indexAt, asIntOf, Sem.run_bind, Sem.run_pure, Result.andThen_ok, run_underlying hu, Instr.sureAddr, h7, and_self, if_true, run_sizeOf hs, h8, addr_add0]
end
end Go.Proofs.YtfkmbdpnjcgimaaGreat

/- The law EpochGuards: its walk. Own work. -/
namespace Go.Proofs.YtfkmbdpnjcgimaaGreat
open Go.RowKit
set_option linter.unusedVariables false
set_option linter.unusedSimpArgs false
set_option maxRecDepth 100000
/-! ### Opening a page -/
-- pointer.lookup: function 22
set_option maxHeartbeats 1000000 in
theorem lookup_ok (ks : List Pg) (p : Pt) (q : Pg) (f : Bool) (hv : validP p = true) (hl : latP ks p.line = q) (hlb : latB ks p.line = true) (hu : lockB q = false) (hk : kindV q.d0 = if f = true then 0 else 1) (hg : genV q.d0 = p.gen) :
    FnP Tryz.prog 22 [IsSl tPg ks, IsPt p, Is (.int .i64 1), Is (.bool true)] (IsTup [IsPg (if f = true then Pg.nil else q), Is (.bool (!f)), Is (.int .i64 (if f = true then 11 else 0))]) := by
  have hlat := LatestP_ok ks p.line
  rw [hl, hlb] at hlat
  have hk' : (unpackT q.d0).kind = if f = true then 0 else 1 := hk
  have hg' : (unpackT q.d0).gen = p.gen := hg
  refine FnP.enter Tryz.func22 Tryz.ntmps22 rfl rfl ?_
  intro c hX
  refine JC_seq (JC_region ?_)
  (refine JL_n rfl (op_box (Ev.rfl' rfl) cellsT) ?_; intro i5)
  (refine JL_n rfl (op_allocN rfl nrmT rfl) ?_; intro i8)
  refine JL_1 rfl (op_assign rfl) (JL_1 rfl (op_assign rfl) (JL_nil ?_))
  refine JQ_then (JC_seq (JC_seq ?_))
  refine JC_region (JL_1 rfl (by exact op_loadPtrsN (n := 2) (Ev.rfl' rfl) memT (by rfl) (by rfl) (by rfl) (by rfl) nrmT) ?_)
  refine JL_1 rfl (op_call Tryz.call45 (ValidP_ok _) ⟨evS, trivial⟩) ?_
  refine JL_1 rfl (op_not (Ev.rfl' rfl)) (JL_nil (JQ_then ?_))
  refine JC_cond (Ev.rfl' rfl) (fun h1 => ?_) (fun h1 => ?_)
  · exact absurd h1 (by rw [hv]; simp)
  refine JC_skip (JQ_then (JC_seq ?_))
  refine JC_region (JL_1 rfl (op_move rfl) (JL_1 rfl (by exact op_fieldPtr (k := 0) (Ev.rfl' rfl) rfl rfl rfl rfl) ?_))
  refine JL_1 rfl (by exact op_loadPtr (Ev.rfl' rfl) memT (by rfl) (by rfl) (by rfl)) ?_
  refine JL_1 rfl (op_call Tryz.call37 (hlat) ⟨evS, ⟨evS, trivial⟩⟩) ?_
  refine JL_1 rfl (op_move rfl) (JL_1 rfl (op_extract (Ev.rfl' rfl) rfl) (JL_1 rfl (op_extract (Ev.rfl' rfl) rfl) ?_))
  (refine JL_n rfl (op_allocN rfl nrmT rfl) ?_; intro i11)
  refine JL_s0 (op_storeN (Ev.rfl' rfl) (Ev.rfl' rfl) cellsT replT nrmT (by rfl) (by rfl) (by rfl)) ?_
  refine JL_1 rfl (op_assign rfl) (JL_nil ?_)
  refine JQ_then (JC_seq (JC_seq ?_))
  refine JC_region (JL_1 rfl (op_move rfl) (JL_1 rfl (op_not (Ev.rfl' rfl)) (JL_nil (JQ_then ?_))))
  refine JC_cond (Ev.rfl' rfl) (fun h4 => ?_) (fun h4 => ?_)
  · exact absurd h4 (by simp)
  refine JC_skip (JQ_then (JC_seq ?_))
  refine JC_region (JL_1 rfl (by exact op_loadPtrsN (n := 9) (Ev.rfl' rfl) memT (by rfl) (by rfl) (by rfl) (by rfl) nrmT) ?_)
  refine JL_1 rfl (op_call Tryz.call40 (tagOf_ok q) ⟨evS, trivial⟩) ?_
  (refine JL_n rfl (op_allocN rfl nrmT rfl) ?_; intro i13)
  refine JL_s0 (op_storeN (Ev.rfl' rfl) (Ev.rfl' rfl) cellsT replT nrmT (by rfl) (by rfl) (by rfl)) ?_
  refine JL_nil ?_
  refine JQ_then (JC_seq (JC_block (JC_seq ?_)))
  refine JC_region (JL_1 rfl (op_move rfl) (JL_1 rfl (op_move rfl) ?_))
  (refine JL_i0 rfl rfl rfl (fun hg => (by have hg0 := hg; (try simp at hg); exact op_loadPtrsN (n := 9) evG memT (by rfl) (by rfl) (by rfl) (by rfl) nrmT)) ?_)
  (refine JL_i0 rfl rfl rfl (fun hg => (by have hg0 := hg; (try simp at hg); exact op_call Tryz.call39 (LockedB_ok _) ⟨evS, trivial⟩)) ?_)
  refine JL_1 rfl (op_and (Ev.rfl' rfl) rfl (fun h => by exact SubL.rfl')) ?_
  refine JL_1 rfl (op_assign rfl) (JL_nil (JQ_then ?_))
  refine JC_cond (Ev.rfl' rfl) (fun h7 => ?_) (fun h7 => ?_)
  · exact absurd h7 (by rw [hu]; simp)
  refine JC_seq (JC_region (JL_1 rfl (by exact op_fieldPtr (k := 0) (Ev.rfl' rfl) rfl rfl rfl rfl) ?_))
  refine JL_1 rfl (by exact op_loadPtr (Ev.rfl' rfl) memT (by rfl) (by rfl) (by rfl)) ?_
  refine JL_1 rfl (op_eql (Ev.rfl' rfl) (Ev.rfl' rfl)) (JL_1 rfl (op_move rfl) ?_)
  (refine JL_i0 rfl rfl rfl (fun hg => (by have hg0 := hg; (try simp at hg); exact op_fieldPtr (k := 1) evG rfl rfl rfl rfl)) ?_)
  (refine JL_i0 rfl rfl rfl (fun hg => (by have hg0 := hg; (try simp at hg); exact op_loadPtr evG memT (by rfl) (by rfl) (by rfl))) ?_)
  (refine JL_i0 rfl rfl rfl (fun hg => (by have hg0 := hg; (try simp at hg); exact op_fieldPtr (k := 1) evG rfl rfl rfl rfl)) ?_)
  (refine JL_i0 rfl rfl rfl (fun hg => (by have hg0 := hg; (try simp at hg); exact op_loadPtr evG memT (by rfl) (by rfl) (by rfl))) ?_)
  (refine JL_i0 rfl rfl rfl (fun hg => (by have hg0 := hg; (try simp at hg); exact op_neq evG evG)) ?_)
  refine JL_1 rfl (op_or (Ev.rfl' rfl) rfl (fun h => by exact SubL.iteT (by (rw [h]; rfl)) SubL.rfl')) ?_
  refine JL_1 rfl (op_assign rfl) (JL_nil (JQ_then ?_))
  refine JC_cond (Ev.rfl' rfl) (fun h9 => ?_) (fun h9 => ?_)
  · have hf : f = true := by
      cases f with
      | true => rfl
      | false => rw [hk', hg'] at h9; simp at h9
    subst hf
    refine JC_seq (JC_region (JL_1 rfl (op_buildN (qs := []) rfl rfl rfl rfl trivial (by rfl) nrmT) ?_))
    refine JL_s0 (op_storeN (Ev.rfl' rfl) (Ev.rfl' rfl) cellsT replT nrmT (by rfl) (by rfl) (by rfl)) ?_
    refine JL_1 rfl (op_assign rfl) (JL_1 rfl (op_assign rfl) (JL_nil ?_))
    refine JQ_then (JC_ret (JQ_block_ret (JQ_then_ret ?_)))
    exact JQ_ret (Bs := [IsPg Pg.nil, Is (.bool false), Is (.int .i64 11)]) Tryz.results22 ⟨⟨_, _, _, _, rfl, memT, rfl, .inr ⟨rfl, _, rfl, rfl, subT⟩⟩, ⟨⟨_, rfl, subT⟩, ⟨⟨_, rfl, subT⟩, trivial⟩⟩⟩ () SubL.rfl' (List.nil_sublist _)
  have hf : f = false := by
    cases f with
    | false => rfl
    | true => rw [hk', hg'] at h9; simp at h9
  subst hf
  refine JC_seq (JC_region (JL_1 rfl (by exact op_fieldPtr (k := 0) (Ev.rfl' rfl) rfl rfl rfl rfl) ?_))
  refine JL_1 rfl (by exact op_loadPtr (Ev.rfl' rfl) memT (by rfl) (by rfl) (by rfl)) ?_
  refine JL_1 rfl (op_move rfl) (JL_1 rfl (op_neq (Ev.rfl' rfl) (Ev.rfl' rfl)) (JL_1 rfl (op_assign rfl) (JL_nil (JQ_then ?_))))
  refine JC_cond (Ev.rfl' rfl) (fun h11 => ?_) (fun h11 => ?_)
  · exact absurd h11 (by rw [hk']; simp)
  refine JC_skip (JQ_block (JQ_then (JC_seq ?_)))
  refine JC_region (JL_1 rfl (by exact op_loadPtrsN (n := 9) (Ev.rfl' rfl) memT (by rfl) (by rfl) (by rfl) (by rfl) nrmT) ?_)
  refine JL_s0 (op_storeN (Ev.rfl' rfl) (Ev.rfl' rfl) cellsT replT nrmT (by rfl) (by rfl) (by rfl)) ?_
  refine JL_1 rfl (op_assign rfl) (JL_1 rfl (op_assign rfl) (JL_nil ?_))
  refine JQ_then (JC_ret ?_)
  exact JQ_ret (Bs := [IsPg q, Is (.bool true), Is (.int .i64 0)]) Tryz.results22 ⟨⟨_, _, _, _, rfl, memT, rfl, .inr ⟨rfl, _, rfl, rfl, subT⟩⟩, ⟨⟨_, rfl, subT⟩, ⟨⟨_, rfl, subT⟩, trivial⟩⟩⟩ () SubL.rfl' (List.nil_sublist _)
-- pointer.Open: function 9
theorem Open_ok (ks : List Pg) (p : Pt) (q : Pg) (f : Bool) (hv : validP p = true) (hl : latP ks p.line = q) (hlb : latB ks p.line = true) (hu : lockB q = false) (hk : kindV q.d0 = if f = true then 0 else 1) (hg : genV q.d0 = p.gen) :
    FnP Tryz.prog 9 [IsSl tPg ks, IsPt p, Is (.int .i64 1)] (IsTup [IsPg (if f = true then Pg.nil else q), Is (.bool (!f)), Is (.int .i64 (if f = true then 11 else 0))]) := by
  refine FnP.enter Tryz.func9 Tryz.ntmps9 rfl rfl ?_
  intro c hX
  refine JC_seq (JC_region ?_)
  (refine JL_n rfl (op_box (Ev.rfl' rfl) cellsT) ?_; intro i4)
  (refine JL_n rfl (op_allocN rfl nrmT rfl) ?_; intro i6)
  refine JL_1 rfl (op_assign rfl) (JL_1 rfl (op_assign rfl) (JL_nil ?_))
  refine JQ_then (JC_seq ?_)
  refine JC_region (JL_1 rfl (op_move rfl) (JL_1 rfl (by exact op_loadPtrsN (n := 2) (Ev.rfl' rfl) memT (by rfl) (by rfl) (by rfl) (by rfl) nrmT) ?_))
  refine JL_1 rfl (op_move rfl) (JL_1 rfl (op_call Tryz.call22 (lookup_ok ks p q f hv hl hlb hu hk hg) ⟨evS, ⟨evS, ⟨evS, ⟨evS, trivial⟩⟩⟩⟩) ?_)
  refine JL_1 rfl (op_extract (Ev.rfl' rfl) rfl) (JL_1 rfl (op_extract (Ev.rfl' rfl) rfl) (JL_1 rfl (op_extract (Ev.rfl' rfl) rfl) (JL_s0 (op_storeN (Ev.rfl' rfl) (Ev.rfl' rfl) cellsT replT nrmT (by rfl) (by rfl) (by rfl)) ?_)))
  refine JL_1 rfl (op_assign rfl) (JL_1 rfl (op_assign rfl) (JL_nil ?_))
  refine JQ_then (JC_ret ?_)
  exact JQ_ret (Bs := [IsPg (if f = true then Pg.nil else q), Is (.bool (!f)), Is (.int .i64 (if f = true then 11 else 0))]) Tryz.results9 ⟨⟨_, _, _, _, rfl, memT, rfl, .inr ⟨rfl, _, rfl, rfl, subT⟩⟩, ⟨⟨_, rfl, subT⟩, ⟨⟨_, rfl, subT⟩, trivial⟩⟩⟩ () SubL.rfl' (List.nil_sublist _)
theorem open_at {n s0 G : Nat} {is : List Nat} {tos : List Pt} {a : AW} {H : List Pg} (h : WI n s0 G is tos a H) {k : Nat} (hk : k < 12) : ∃ pg, FnP Tryz.prog 9 [IsSl tPg H, IsPt (tos.getD k Pt.nil), Is (.int .i64 1)] (IsTup [IsPg pg, Is (.bool (!a.fre k)), Is (.int .i64 (if a.fre k = true then 11 else 0))]) := by
  obtain ⟨N, hE, _⟩ := h.ei
  obtain ⟨i, i1, i2, i3⟩ := h.tok hk
  have h5 := h.S.n5
  have hs := h.S.s
  obtain ⟨q, hq⟩ := hE.at_ (k := 8 + 16 * s0 + i) (by omega)
  obtain ⟨e1, e2⟩ := hE.lat hq
  rw [show (96 + ((8 + 16 * s0 + i : Nat) : Int)) = (tos.getD k Pt.nil).line by rw [i3]; simp only; omega] at e1 e2
  obtain ⟨d1, d2⟩ := hE.dp k i q i1 hq
  exact ⟨_, Open_ok H _ q (a.fre k) (h.valid hk).1 e1 e2 (hE.un _ _ hq) d1 (by rw [d2, i3])⟩
/-! ### Guards -/
structure G6 where
  b0 : Bool
  b1 : Bool
  b2 : Bool
  b3 : Bool
  b4 : Bool
  b5 : Bool
def tG6 : Ty G6 := ⟨6, fun g => [Is (.bool g.b0), Is (.bool g.b1), Is (.bool g.b2), Is (.bool g.b3), Is (.bool g.b4), Is (.bool g.b5)], fun _ => rfl⟩
def mk6 (f : Nat → Bool) : G6 := ⟨f 0, f 1, f 2, f 3, f 4, f 5⟩
def put6 (g : G6) (c : Nat) (b : Bool) : G6 := match c with
  | 0 => { g with b0 := b }
  | 1 => { g with b1 := b }
  | 2 => { g with b2 := b }
  | 3 => { g with b3 := b }
  | 4 => { g with b4 := b }
  | _ => { g with b5 := b }
theorem put6_cells (g : G6) {c : Nat} (hc : c < 6) (b : Bool) : tG6.cells (put6 g c b) = ovr (tG6.cells g) (c * 1) [Is (.bool b)] := by
  match c, hc with
  | 0, _ | 1, _ | 2, _ | 3, _ | 4, _ | 5, _ => rfl
theorem get6 (f : Nat → Bool) {c : Nat} (hc : c < 6) : (tG6.cells (mk6 f))[c * 1]? = some (Is (.bool (f c))) := by
  match c, hc with
  | 0, _ | 1, _ | 2, _ | 3, _ | 4, _ | 5, _ => rfl
theorem put6_mk (f : Nat → Bool) {c : Nat} (hc : c < 6) (b : Bool) : put6 (mk6 f) c b = mk6 (fun d => if d = c then b else f d) := by
  match c, hc with
  | 0, _ | 1, _ | 2, _ | 3, _ | 4, _ | 5, _ => rfl
theorem ble6 {c : Nat} (hc : c < 6) : (Nat.beq 1 1 && Nat.ble (c * 1 + 1) 6) = true := by
  match c, hc with
  | 0, _ | 1, _ | 2, _ | 3, _ | 4, _ | 5, _ => rfl
theorem mk6_ext {f g : Nat → Bool} (h : ∀ d, d < 6 → f d = g d) : mk6 f = mk6 g := by
  unfold mk6
  rw [h 0 (by decide), h 1 (by decide), h 2 (by decide), h 3 (by decide), h 4 (by decide), h 5 (by decide)]
def gRow (F : Nat → Nat → Bool) : List G6 := (List.range 12).map fun k => mk6 (F k)
theorem gRow_len (F : Nat → Nat → Bool) : (gRow F).length = 12 := by unfold gRow; simp
theorem gRow_at (F : Nat → Nat → Bool) {k : Nat} (hk : k < 12) : (gRow F)[k]? = some (mk6 (F k)) := by
  unfold gRow; rw [List.getElem?_map, List.getElem?_range hk]; rfl
theorem gRow_ext {F F' : Nat → Nat → Bool} (h : ∀ j, j < 12 → ∀ d, d < 6 → F j d = F' j d) : gRow F = gRow F' := by
  unfold gRow
  exact List.map_congr_left fun j hj => mk6_ext (h j (List.mem_range.1 hj))
theorem gRow_set (F : Nat → Nat → Bool) {k c : Nat} (hk : k < 12) (hc : c < 6) (b : Bool) : (gRow F).set k (put6 (mk6 (F k)) c b) = gRow fun j d => if j = k ∧ d = c then b else F j d := by
  apply List.ext_getElem?
  intro j
  rcases Nat.lt_or_ge j 12 with hj | hj
  · rw [List.getElem?_set, gRow_at _ hj, gRow_at _ hj, gRow_len]
    by_cases e : k = j
    · subst e
      rw [if_pos rfl, if_pos hk, put6_mk _ hc]
      congr 2
      funext d
      by_cases e2 : d = c
      · rw [if_pos e2, if_pos ⟨rfl, e2⟩]
      · rw [if_neg e2, if_neg (fun h => e2 h.2)]
    · rw [if_neg e]
      congr 2
      funext d
      rw [if_neg (fun h => e h.1.symm)]
  · rw [List.getElem?_eq_none (by rw [List.length_set, gRow_len]; exact hj), List.getElem?_eq_none (by rw [gRow_len]; exact hj)]
def Gs (a a' : AW) (G : Nat → Nat → Bool) (k c : Nat) : Nat → Nat → Bool := fun j d => if j < k ∨ (j = k ∧ d < c) then updG a a' G j d else G j d
theorem Gs_step {a a' : AW} {G : Nat → Nat → Bool} {k c : Nat} {b : Bool} (hb : updG a a' G k c = b) : gRow (fun j d => if j = k ∧ d = c then b else Gs a a' G k c j d) = gRow (Gs a a' G k (c + 1)) := by
  refine gRow_ext fun j _ d _ => ?_
  unfold Gs
  by_cases e : j = k ∧ d = c
  · obtain ⟨e1, e2⟩ := e
    subst e1 e2
    rw [if_pos ⟨rfl, rfl⟩, if_pos (.inr ⟨rfl, by omega⟩), hb]
  · rw [if_neg e]
    by_cases e2 : j < k ∨ (j = k ∧ d < c)
    · rw [if_pos e2, if_pos (by omega)]
    · rw [if_neg e2, if_neg (by omega)]
theorem Gs_stay {a a' : AW} {G : Nat → Nat → Bool} {k c : Nat} (hb : updG a a' G k c = G k c) : gRow (Gs a a' G k c) = gRow (Gs a a' G k (c + 1)) := by
  refine gRow_ext fun j _ d _ => ?_
  unfold Gs
  by_cases e : j = k ∧ d = c
  · obtain ⟨e1, e2⟩ := e
    subst e1 e2
    rw [if_neg (by omega), if_pos (.inr ⟨rfl, by omega⟩), hb]
  · by_cases e2 : j < k ∨ (j = k ∧ d < c)
    · rw [if_pos e2, if_pos (by omega)]
    · rw [if_neg e2, if_neg (by omega)]
theorem Gs_next (a a' : AW) (G : Nat → Nat → Bool) (k : Nat) : gRow (Gs a a' G k 6) = gRow (Gs a a' G (k + 1) 0) := by
  refine gRow_ext fun j _ d hd => ?_
  unfold Gs
  by_cases e2 : j < k ∨ (j = k ∧ d < 6)
  · rw [if_pos e2, if_pos (by omega)]
  · rw [if_neg e2, if_neg (by omega)]
theorem Gs_start (a a' : AW) (G : Nat → Nat → Bool) : gRow (Gs a a' G 0 0) = gRow G := gRow_ext fun j _ d _ => by
  unfold Gs
  rw [if_neg (by omega)]
theorem Gs_end (a a' : AW) (G : Nat → Nat → Bool) : gRow (Gs a a' G 12 0) = gRow (updG a a' G) := gRow_ext fun j hj d _ => by
  unfold Gs
  rw [if_pos (.inl hj)]
theorem Gs_at (a a' : AW) (G : Nat → Nat → Bool) (k c : Nat) : Gs a a' G k (c + 1) k c = updG a a' G k c := by
  unfold Gs
  rw [if_pos (.inr ⟨rfl, by omega⟩)]
theorem pinI_zero (a : AW) (c : Nat) : (pinI a c == 0) = (a.pin c).isNone := by
  cases hv : a.pin c with
  | none => rw [pinI_none hv]; rfl
  | some e =>
    rw [pinI_some hv, Bool.eq_iff_iff]
    simp
    omega
theorem retI_lt (a : AW) (k : Nat) : decide (retI a k < 0) = (a.ret k).isNone := by
  unfold retI
  cases a.ret k with
  | none => rfl
  | some e => rw [Bool.eq_iff_iff]; simp
theorem ptV_zero (n sz : Nat) (i : Option Addr × Nat) : ptV n 0 sz i = slV n i := by
  unfold ptV slV
  rw [Nat.zero_mul]
  obtain ⟨p, m⟩ := i
  cases p with
  | none => simp
  | some b =>
    obtain ⟨b1, b2, b3⟩ := b
    simp [Addr.add]
end Go.Proofs.YtfkmbdpnjcgimaaGreat

/- The law EpochGuards: its walk. Own work. -/
namespace Go.Proofs.YtfkmbdpnjcgimaaGreat
open Go.RowKit
set_option linter.unusedVariables false
set_option linter.unusedSimpArgs false
set_option maxRecDepth 100000
def g60 : G6 := ⟨false, false, false, false, false, false⟩
theorem row0 (sz b : Nat) {L : List Item} : SubL L (Is (slV 0 (some ⟨b, 0, none⟩, 0))) (IsRow 0 sz []) := fun φ v _ h => ⟨b, h, (fun j A hj => by simp at hj), by simp, Nat.zero_le _⟩
theorem gRow0 : List.replicate 12 g60 = gRow fun _ _ => false := by
  unfold gRow; rfl
-- bodegalaw26.EpochGuards: function 4
set_option maxHeartbeats 4000000 in
theorem EpochGuards_ok (size : Int) (l : List Mw) : FnP Tryz.prog 4 [Is (.int .i64 size), IsSl tMw l] (Is (.bool true)) := by
  obtain ⟨n, hn0⟩ : ∃ n : Nat, 1 + (size % 5).toNat = n := ⟨_, rfl⟩
  refine FnP.enter Tryz.func4 Tryz.ntmps4 rfl rfl ?_
  intro c hX
  refine JC_len (t := 1) rfl (fun hlen => ?_)
  refine JC_seq (JC_region (JL_1 rfl (op_assign rfl) (JL_nil ?_)))
  refine JQ_then (JC_seq (JC_seq ?_))
  refine JC_region (JL_1 rfl (op_move rfl) (JL_1 rfl (by exact op_len (Ev.rfl' rfl) rfl) ?_))
  refine JL_1 rfl (op_gtr (Ev.rfl' rfl) (Ev.rfl' rfl)) (JL_1 rfl (op_move rfl) ?_)
  (refine JL_i0 rfl rfl rfl (fun hg => (by have hg0 := hg; (try simp at hg); exact op_call Tryz.call5 (awakeE_ok) trivial)) ?_)
  (refine JL_i0 rfl rfl rfl (fun hg => (by have hg0 := hg; (try simp at hg); exact op_not evG)) ?_)
  refine JL_1 rfl (op_or (Ev.rfl' rfl) rfl (fun h => by exact SubL.iteT (by (rw [h]; rfl)) SubL.rfl')) ?_
  refine JL_nil (JQ_then ?_)
  refine JC_cond (Ev.rfl' rfl) (fun h1 => ?_) (fun h1 => ?_)
  · refine JC_seq (JC_region (JL_1 rfl (op_call Tryz.call5 (awakeE_ok) trivial) ?_))
    refine JL_1 rfl (op_assign rfl) (JL_nil ?_)
    refine JQ_then (JC_ret (JQ_then_ret ?_))
    refine JQ_ret1 Tryz.results4 rfl () (SubL.eq ?_) (List.nil_sublist _)
    rfl
  have hl : l.length ≤ 80 := by simp at h1; omega
  clear h1
  refine JC_skip (JQ_then (JC_seq ?_))
  refine JC_region (JL_1 rfl (op_move rfl) ?_)
  (refine JL_s rfl (op_callN Tryz.call6 (lay_ok size n hn0) ⟨evS, trivial⟩) ?_; intro i27)
  refine JL_1 rfl (op_move rfl) (JL_1 rfl (op_extract (Ev.rfl' rfl) rfl) (JL_1 rfl (op_extract (Ev.rfl' rfl) rfl) (JL_1 rfl (op_assign rfl) (JL_1 rfl (op_assign rfl) (JL_nil ?_)))))
  refine JQ_then (JC_seq (JC_seq ?_))
  obtain ⟨bw, hp, s0, z0, z1, z2, is, tos, H0, hW0⟩ := i27
  dsimp only
  have htl := hW0.tl
  have hn5 := hW0.S.n5
  refine JC_region (JL_1 rfl (op_move rfl) (JL_1 rfl (op_not (Ev.rfl' rfl)) (JL_nil (JQ_then ?_))))
  refine JC_cond (Ev.rfl' rfl) (fun h4 => ?_) (fun h4 => ?_)
  · exact absurd h4 (by simp)
  refine JC_skip (JQ_then (JC_seq ?_))
  refine JC_region (JL_1 rfl (op_move rfl) (JL_1 rfl (by exact op_nilCheck (Ev.rfl' rfl)) ?_))
  refine JL_1 rfl (by exact op_fieldPtr (k := 8) (Ev.rfl' rfl) rfl rfl rfl rfl) ?_
  refine JL_1 rfl (by exact op_loadPtr (Ev.rfl' rfl) memT (by rfl) (by rfl) (by rfl)) ?_
  refine JL_1 rfl (by exact op_len (Ev.rfl' rfl) rfl) ?_
  (refine JL_n rfl (op_makeRowN tG6 g60 [.bool false, .bool false, .bool false, .bool false, .bool false, .bool false] (n := tos.length) (Ev.rfl' rfl) (Ev.rfl' rfl) (fun φ => ⟨rfl, rfl, rfl, rfl, rfl, rfl, trivial⟩) rfl (by rfl) rfl rfl rfl (by rfl) (by omega) (by decide)) ?_; intro i37)
  refine JL_1 rfl (op_assign rfl) (JL_nil ?_)
  refine JQ_then (JC_seq (JC_seq ?_))
  rw [htl, gRow0]
  refine JC_region (JL_1 rfl (op_assign rfl) (JL_nil ?_))
  refine JQ_then (JC_block ?_)
  refine JC_loopP (fun z : Nat × AW × List Pg × (Nat → Nat → Bool) => z.1 ≤ l.length ∧ WI n s0 z.1 is tos z.2.1 z.2.2.1 ∧ AG z.2.1 z.2.2.2) (fun z => [(1, IsSl tMw l), (5, Is (.pointer (some ⟨bw, 0, none⟩))), (7, Is (slV 12 (some ⟨i37, 0, none⟩, 12))), (8, Is (.int .i64 (z.1 : Nat)))]) (fun z => buf (slV 12 (some ⟨i37, 0, none⟩, 12)) 61 tG6 (gRow z.2.2.2) :: WL bw hp n z0 z1 z2 tos z.2.1 z.2.2.1) (fun z => l.length - z.1) (0, aw0, H0, fun _ _ => false) ⟨Nat.zero_le _, hW0, fun k c h => by cases h⟩ esubT lessT ?_
  rintro ⟨i, a, H, G⟩ ⟨hi, hW, hG⟩
  dsimp only at hi hW hG ⊢
  refine JC_seq (JC_seq ?_)
  refine JC_region (JL_1 rfl (op_move rfl) (JL_1 rfl (op_move rfl) (JL_1 rfl (by exact op_len (Ev.rfl' rfl) rfl) ?_)))
  refine JL_1 rfl (op_lss (Ev.rfl' rfl) (Ev.rfl' rfl)) (JL_nil (JQ_then ?_))
  refine JC_cond (Ev.rfl' rfl) (fun h8 => ?_) (fun h8 => ?_)
  · have hlt : i < l.length := by have := of_decide_eq_true h8; omega
    clear h8
    obtain ⟨mv, hz⟩ : ∃ z, l[i]? = some z := ⟨l[i], List.getElem?_eq_getElem hlt⟩
    obtain ⟨kd, hkd⟩ : ∃ c : Nat, mv.kind % 8 = (c : Int) := ⟨(mv.kind % 8).toNat, by omega⟩
    obtain ⟨cl, hcl⟩ : ∃ c : Nat, mv.client % 6 = (c : Int) := ⟨(mv.client % 6).toNat, by omega⟩
    obtain ⟨ot, hot⟩ : ∃ c : Nat, mv.for_ % 6 = (c : Int) := ⟨(mv.for_ % 6).toNat, by omega⟩
    have hdo := doA_ok bw hp n s0 i z0 z1 z2 is tos a H mv i kd cl ot hW (by omega) (by omega) hkd hcl hot
    have hAG' : AG (a.move kd cl ot (i % 12)) (updG a (a.move kd cl ot (i % 12)) G) := hG.move hW.I
    have hmg : ∀ k d, (a.move kd cl ot (i % 12)).fre k = true → a.fre k = false → updG a (a.move kd cl ot (i % 12)) G k d = false := fun k d h1 h2 => move_guard hW.I hG h1 h2
    obtain ⟨a', ha'⟩ : ∃ a', a.move kd cl ot (i % 12) = a' := ⟨_, rfl⟩
    rw [ha'] at hdo hAG' hmg
    have hrl := retL_len a
    have hfl := freL_len a
    have hrl' := retL_len a'
    have hfl' := freL_len a'
    have hd0 : ([] : List Bool) ++ (freL a).drop 0 = freL a := by simp
    have hd1 : ([] : List Int) ++ (retL a).drop 0 = retL a := by simp
    refine JC_skip (JQ_then (JC_seq (JC_block (JC_seq ?_))))
    refine JC_region ?_
    (refine JL_n rfl (op_buildSlice0 tBool rfl rfl) ?_; intro i44)
    refine JL_1 rfl (op_move rfl) (JL_1 rfl (by exact op_nilCheck (Ev.rfl' rfl)) ?_)
    refine JL_1 rfl (by exact op_fieldPtr (k := 9) (Ev.rfl' rfl) rfl rfl rfl rfl) ?_
    refine JL_1 rfl (by exact op_loadPtr (Ev.rfl' rfl) memT (by rfl) (by rfl) (by rfl)) ?_
    refine JL_1 rfl (op_appLitPart (T := tBool) (size := 1) (m := 0) (i := z2) (n := 12) (l := 0) (ys := freL a) ([] : List Bool) (Ev.sub rfl (row0 1 _)) subzT rfl rfl (Ev.sub rfl (SubL.eq (congrArg Is (ptV_zero _ _ _).symm))) memT (Nat.zero_le _) (by exact appT rfl rfl rfl) lenT) ?_
    refine JL_1 rfl (op_assign rfl) (JL_nil ?_)
    refine JQ_then (JC_seq ?_)
    rw [hd0]
    refine JC_region ?_
    (refine JL_n rfl (op_buildSlice0 tI64 rfl rfl) ?_; intro i50)
    refine JL_1 rfl (op_move rfl) (JL_1 rfl (by exact op_nilCheck (Ev.rfl' rfl)) ?_)
    refine JL_1 rfl (by exact op_fieldPtr (k := 7) (Ev.rfl' rfl) rfl rfl rfl rfl) ?_
    refine JL_1 rfl (by exact op_loadPtr (Ev.rfl' rfl) memT (by rfl) (by rfl) (by rfl)) ?_
    refine JL_1 rfl (op_appLitPart (T := tI64) (size := 1) (m := 0) (i := z1) (n := 12) (l := 0) (ys := retL a) ([] : List Int) (Ev.sub rfl (row0 1 _)) subzT rfl rfl (Ev.sub rfl (SubL.eq (congrArg Is (ptV_zero _ _ _).symm))) memT (Nat.zero_le _) (by exact appT rfl rfl rfl) lenT) ?_
    refine JL_1 rfl (op_assign rfl) (JL_nil ?_)
    refine JQ_then (JC_seq (JC_seq ?_))
    rw [hd1]
    refine JC_region (JL_1 rfl (op_move rfl) (JL_1 rfl (op_move rfl) (JL_1 rfl (op_move rfl) (JL_1 rfl (by exact op_index (j := i) (Ev.rfl' rfl) (Ev.rfl' rfl) rfl rfl (by rfl) hz) ?_))))
    refine JL_1 rfl (by exact op_loadRefsN (n := 3) (Ev.rfl' rfl) rfl rfl rfl (by rfl) nrmT) ?_
    refine JL_1 rfl (op_move rfl) ?_
    (refine JL_s rfl (op_callM (Drops.cons drop1A (Drops.cons drop1A (Drops.cons drop1A (Drops.cons drop1A (Drops.cons drop1A (Drops.nil _)))))) Tryz.call7 (hdo) ⟨evS, ⟨evS, ⟨evS, trivial⟩⟩⟩) ?_; intro i62)
    refine JL_1 rfl (op_not (Ev.rfl' rfl)) (JL_nil (JQ_then ?_))
    obtain ⟨H', hW'⟩ := i62
    dsimp only
    have hI' := hW'.I
    refine JC_cond (Ev.rfl' rfl) (fun h12 => ?_) (fun h12 => ?_)
    · exact absurd h12 (by simp)
    refine JC_skip (JQ_then (JC_seq (JC_seq ?_)))
    refine JC_region (JL_1 rfl (op_assign rfl) (JL_nil ?_))
    refine JQ_then (JC_block ?_)
    refine JC_loopP (fun k : Nat => k ≤ 12) (fun k => [(1, IsSl tMw l), (5, Is (.pointer (some ⟨bw, 0, none⟩))), (7, Is (slV 12 (some ⟨i37, 0, none⟩, 12))), (8, Is (.int .i64 (i : Nat))), (9, IsSl tBool (freL a)), (10, IsSl tI64 (retL a)), (11, Is (.int .i64 (k : Nat)))]) (fun k => buf (slV 12 (some ⟨i37, 0, none⟩, 12)) 61 tG6 (gRow (Gs a a' G k 0)) :: WL bw hp n z0 z1 z2 tos a' H') (fun k => 12 - k) 0 (Nat.zero_le _) esubT (by rw [Gs_start]; exact lessT) ?_
    intro k hk
    refine JC_seq (JC_seq ?_)
    refine JC_region (JL_1 rfl (op_move rfl) (JL_1 rfl (op_move rfl) (JL_1 rfl (by exact op_nilCheck (Ev.rfl' rfl)) ?_)))
    refine JL_1 rfl (by exact op_fieldPtr (k := 8) (Ev.rfl' rfl) rfl rfl rfl rfl) ?_
    refine JL_1 rfl (by exact op_loadPtr (Ev.rfl' rfl) memT (by rfl) (by rfl) (by rfl)) ?_
    refine JL_1 rfl (by exact op_len (Ev.rfl' rfl) rfl) ?_
    refine JL_1 rfl (op_lss (Ev.rfl' rfl) (Ev.rfl' rfl)) (JL_nil (JQ_then ?_))
    refine JC_cond (Ev.rfl' rfl) (fun h15 => ?_) (fun h15 => ?_)
    · have hk12 : k < 12 := by have := of_decide_eq_true h15; omega
      clear h15
      have hx : tos[k]? = some (tos.getD k Pt.nil) := by
        rw [List.getD_eq_getElem?_getD, List.getElem?_eq_getElem (by omega)]; rfl
      obtain ⟨pg, hopen⟩ := open_at hW' hk12
      have hz1 := retL_at a hk12
      have hz2 := freL_at a hk12
      have hz1' := retL_at a' hk12
      have hz2' := freL_at a' hk12
      have hlt0 := retI_lt a k
      have hge0 := retI_ge a' k
      refine JC_skip (JQ_then (JC_seq (JC_block (JC_seq (JC_seq ?_)))))
      refine JC_region (JL_1 rfl (op_assign rfl) (JL_nil ?_))
      refine JQ_then (JC_block ?_)
      refine JC_loopP (fun d : Nat => d ≤ 6) (fun d => [(1, IsSl tMw l), (5, Is (.pointer (some ⟨bw, 0, none⟩))), (7, Is (slV 12 (some ⟨i37, 0, none⟩, 12))), (8, Is (.int .i64 (i : Nat))), (9, IsSl tBool (freL a)), (10, IsSl tI64 (retL a)), (11, Is (.int .i64 (k : Nat))), (12, Is (.int .i64 (d : Nat)))]) (fun d => buf (slV 12 (some ⟨i37, 0, none⟩, 12)) 61 tG6 (gRow (Gs a a' G k d)) :: WL bw hp n z0 z1 z2 tos a' H') (fun d => 6 - d) 0 (Nat.zero_le _) esubT lessT ?_
      intro d hd
      refine JC_seq (JC_seq ?_)
      refine JC_region (JL_1 rfl (op_move rfl) (JL_1 rfl (op_lss (Ev.rfl' rfl) (Ev.rfl' rfl)) (JL_nil (JQ_then ?_))))
      refine JC_cond (Ev.rfl' rfl) (fun h18 => ?_) (fun h18 => ?_)
      · have hd6 : d < 6 := by have := of_decide_eq_true h18; omega
        clear h18
        have hgl := gRow_len (Gs a a' G k d)
        have hgl1 := gRow_len (Gs a a' G k (d + 1))
        have hzg := gRow_at (Gs a a' G k d) hk12
        have hzg1 := gRow_at (Gs a a' G k (d + 1)) hk12
        have hpz := pinI_zero a' d
        refine JC_skip (JQ_then (JC_seq (JC_block (JC_seq (JC_seq ?_)))))
        refine JC_region (JL_1 rfl (op_move rfl) (JL_1 rfl (op_move rfl) (JL_1 rfl (by exact op_nilCheck (Ev.rfl' rfl)) ?_)))
        refine JL_1 rfl (by exact op_fieldPtr (k := 1) (Ev.rfl' rfl) rfl rfl rfl rfl) ?_
        refine JL_1 rfl (op_indexArr (k := d) (sz := 1) (Ev.rfl' rfl) (Ev.rfl' rfl) rfl rfl idxT (by omega)) ?_
        refine JL_1 rfl (op_loadPtr (Ev.rfl' rfl) memT rfl rfl (pin_at _ _ _ _ _ _ hd6)) ?_
        refine JL_1 rfl (op_eql (Ev.rfl' rfl) (Ev.rfl' rfl)) (JL_nil (JQ_then (JC_cutT (fun _ : Unit => True) (fun _ => [(1, IsSl tMw l), (5, Is (.pointer (some ⟨bw, 0, none⟩))), (7, Is (slV 12 (some ⟨i37, 0, none⟩, 12))), (8, Is (.int .i64 (i : Nat))), (9, IsSl tBool (freL a)), (10, IsSl tI64 (retL a)), (11, Is (.int .i64 (k : Nat))), (12, Is (.int .i64 (d : Nat)))]) (fun _ => buf (slV 12 (some ⟨i37, 0, none⟩, 12)) 61 tG6 (gRow (Gs a a' G k (d + 1))) :: WL bw hp n z0 z1 z2 tos a' H') ?_ ?_)))
        rotate_left
        focus
          refine JC_cond (Ev.rfl' rfl) (fun h20 => ?_) (fun h20 => ?_)
          · have hb : updG a a' G k d = false := by unfold updG; rw [if_pos (by rw [← hpz]; exact h20)]
            have hset := (gRow_set (Gs a a' G k d) hk12 hd6 false).trans (Gs_step hb)
            refine JC_region (JL_1 rfl (op_move rfl) (JL_1 rfl (op_move rfl) (JL_1 rfl (op_move rfl) (JL_1 rfl (by exact op_indexBuf (k := k) (Ev.rfl' rfl) memT (Ev.rfl' rfl) rfl rfl idxT lenT) ?_))))
            refine JL_1 rfl (op_indexArrBuf (k := d) (Ev.rfl' rfl) memT (by omega) (Ev.rfl' rfl) rfl rfl rfl hd6) ?_
            refine JL_s0 (op_storeBuf (T := tG6) (m := 1) (Bs := [Is (.bool false)]) (o := d * 1) (z' := put6 (mk6 (Gs a a' G k d k)) d false) (Ev.rfl' rfl) (Ev.rfl' rfl) cellsT replT hzg (by rfl) (ble6 hd6) (put6_cells _ hd6 _)) ?_
            refine JL_nil ?_
            exact JQ_meetP () trivial esubT (by rw [← hset]; exact lessT)
          have hpn : ¬ (a'.pin d).isNone = true := by rw [← hpz, h20]; simp
          refine JC_seq (JC_region (JL_1 rfl (op_move rfl) (JL_1 rfl (op_move rfl) (JL_1 rfl (by exact op_index (j := k) (Ev.rfl' rfl) (Ev.rfl' rfl) rfl rfl (by rfl) hz1) ?_))))
          refine JL_1 rfl (by exact op_loadRef (Ev.rfl' rfl) rfl rfl rfl) ?_
          refine JL_1 rfl (op_lss (Ev.rfl' rfl) (Ev.rfl' rfl)) (JL_1 rfl (op_move rfl) ?_)
          (refine JL_i0 rfl rfl rfl (fun hg => (by have hg0 := hg; (try simp at hg); exact op_moveE (Ev.rfl' rfl))) ?_)
          (refine JL_i0 rfl rfl rfl (fun hg => (by have hg0 := hg; (try simp at hg); exact op_nilCheck evG)) ?_)
          (refine JL_i0 rfl rfl rfl (fun hg => (by have hg0 := hg; (try simp at hg); exact op_fieldPtr (k := 7) evG rfl rfl rfl rfl)) ?_)
          (refine JL_i0 rfl rfl rfl (fun hg => (by have hg0 := hg; (try simp at hg); exact op_loadPtr evG memT (by rfl) (by rfl) (by rfl))) ?_)
          (refine JL_i0 rfl rfl rfl (fun hg => (by have hg0 := hg; (try simp at hg); exact op_moveE (Ev.rfl' rfl))) ?_)
          (refine JL_i0 rfl rfl rfl (fun hg => (by have hg0 := hg; (try simp at hg); exact op_indexBuf (k := k) evG memT evG rfl rfl idxT lenT)) ?_)
          (refine JL_i0 rfl rfl rfl (fun hg => (by have hg0 := hg; (try simp at hg); exact op_loadBuf0 evG memT hz1' rfl rfl (by rfl))) ?_)
          (refine JL_i0 rfl rfl rfl (fun hg => (by have hg0 := hg; (try simp at hg); exact op_geq evG evG)) ?_)
          refine JL_1 rfl (op_and (Ev.rfl' rfl) rfl (fun h => by exact SubL.iteT (by (rw [h]; rfl)) SubL.rfl')) ?_
          refine JL_nil (JQ_then ?_)
          refine JC_cond (Ev.rfl' rfl) (fun h22 => ?_) (fun h22 => ?_)
          · have hb : updG a a' G k d = true := by unfold updG; rw [if_neg hpn, if_pos (by rw [← hlt0, ← hge0]; exact h22)]
            have hset := (gRow_set (Gs a a' G k d) hk12 hd6 true).trans (Gs_step hb)
            refine JC_region (JL_1 rfl (op_move rfl) (JL_1 rfl (op_move rfl) (JL_1 rfl (op_move rfl) (JL_1 rfl (by exact op_indexBuf (k := k) (Ev.rfl' rfl) memT (Ev.rfl' rfl) rfl rfl idxT lenT) ?_))))
            refine JL_1 rfl (op_indexArrBuf (k := d) (Ev.rfl' rfl) memT (by omega) (Ev.rfl' rfl) rfl rfl rfl hd6) ?_
            refine JL_s0 (op_storeBuf (T := tG6) (m := 1) (Bs := [Is (.bool true)]) (o := d * 1) (z' := put6 (mk6 (Gs a a' G k d k)) d true) (Ev.rfl' rfl) (Ev.rfl' rfl) cellsT replT hzg (by rfl) (ble6 hd6) (put6_cells _ hd6 _)) ?_
            refine JL_nil ?_
            exact JQ_meetP () trivial esubT (by rw [← hset]; exact lessT)
          have hb : updG a a' G k d = G k d := by unfold updG; rw [if_neg hpn, if_neg (by rw [← hlt0, ← hge0]; rw [h22]; simp)]
          have hset := Gs_stay hb
          refine JC_skip ?_
          exact JQ_meetP () trivial esubT (by rw [← hset]; exact lessT)
        rintro _ _
        have hga := Gs_at a a' G k d
        refine JC_seq (JC_region (JL_1 rfl (op_move rfl) (JL_1 rfl (by exact op_nilCheck (Ev.rfl' rfl)) ?_)))
        refine JL_1 rfl (by exact op_fieldPtr (k := 9) (Ev.rfl' rfl) rfl rfl rfl rfl) ?_
        refine JL_1 rfl (by exact op_loadPtr (Ev.rfl' rfl) memT (by rfl) (by rfl) (by rfl)) ?_
        refine JL_1 rfl (op_move rfl) (JL_1 rfl (by exact op_indexBuf (k := k) (Ev.rfl' rfl) memT (Ev.rfl' rfl) rfl rfl idxT lenT) ?_)
        refine JL_1 rfl (by exact op_loadBuf0 (Ev.rfl' rfl) memT hz2' rfl rfl (by rfl)) ?_
        refine JL_1 rfl (op_move rfl) ?_
        (refine JL_i0 rfl rfl rfl (fun hg => (by have hg0 := hg; (try simp at hg); exact op_moveE (Ev.rfl' rfl))) ?_)
        (refine JL_i0 rfl rfl rfl (fun hg => (by have hg0 := hg; (try simp at hg); exact op_moveE (Ev.rfl' rfl))) ?_)
        (refine JL_i0 rfl rfl rfl (fun hg => (by have hg0 := hg; (try simp at hg); exact op_index (j := k) evG evG rfl rfl (by rfl) hz2)) ?_)
        (refine JL_i0 rfl rfl rfl (fun hg => (by have hg0 := hg; (try simp at hg); exact op_loadRef evG rfl rfl rfl)) ?_)
        (refine JL_i0 rfl rfl rfl (fun hg => (by have hg0 := hg; (try simp at hg); exact op_not evG)) ?_)
        refine JL_1 rfl (op_and (Ev.rfl' rfl) rfl (fun h => by exact SubL.iteT (by (rw [h]; rfl)) SubL.rfl')) ?_
        refine JL_1 rfl (op_move rfl) ?_
        (refine JL_i0 rfl rfl rfl (fun hg => (by have hg0 := hg; (try simp at hg); exact op_moveE (Ev.rfl' rfl))) ?_)
        (refine JL_i0 rfl rfl rfl (fun hg => (by have hg0 := hg; (try simp at hg); exact op_moveE (Ev.rfl' rfl))) ?_)
        (refine JL_i0 rfl rfl rfl (fun hg => (by have hg0 := hg; (try simp at hg); exact op_moveE (Ev.rfl' rfl))) ?_)
        (refine JL_i0 rfl rfl rfl (fun hg => (by have hg0 := hg; (try simp at hg); exact op_indexBuf (k := k) evG memT evG rfl rfl idxT lenT)) ?_)
        (refine JL_i0 rfl rfl rfl (fun hg => (by have hg0 := hg; (try simp at hg); exact op_indexArrBuf (k := d) evG2 memT (by omega) evG2 rfl rfl rfl hd6)) ?_)
        (refine JL_i0 rfl rfl rfl (fun hg => (by have hg0 := hg; (try simp at hg); exact op_loadBuf (j := d * 1) evG2 memT hzg1 rfl rfl (get6 _ hd6))) ?_)
        refine JL_1 rfl (op_and (Ev.rfl' rfl) rfl (fun h => by exact SubL.iteT (by (rw [h]; rfl)) SubL.rfl')) ?_
        refine JL_nil (JQ_then ?_)
        refine JC_cond (Ev.rfl' rfl) (fun h24 => ?_) (fun h24 => ?_)
        · exfalso
          rw [hga] at h24
          cases h1 : a'.fre k with
          | false => rw [h1] at h24; simp at h24
          | true =>
            cases h2 : a.fre k with
            | true => rw [h2] at h24; simp at h24
            | false => rw [hmg k d h1 h2] at h24; simp at h24
        refine JC_skip (JQ_block (JQ_then ?_))
        refine JC_region (JL_1 rfl (op_move rfl) (JL_1 rfl (op_add (Ev.rfl' rfl) (Ev.rfl' rfl) wrapT) ?_))
        refine JL_1 rfl (op_assign rfl) (JL_nil ?_)
        exact JQ_roundP (d + 1) (by omega) (by omega) esubT lessT
      have hde : d = 6 := by have := of_decide_eq_false h18; omega
      clear h18
      subst hde
      rw [Gs_next]
      refine JC_exit (JQ_then_exit (JQ_then_exit (JQ_hit (JQ_then (JC_seq ?_)))))
      refine JC_dr rfl (by kernel_rfl) ?_
      refine JD_stretch 23 (by kernel_rfl) ?_
      refine JW_1 (op_move rfl) (JW_1 (by exact op_nilCheck (Ev.rfl' rfl)) ?_)
      refine JW_1 (by exact op_fieldPtr (k := 0) (Ev.rfl' rfl) rfl rfl rfl rfl) ?_
      refine JW_1 (by exact op_loadPtr (Ev.rfl' rfl) memT (by rfl) (by rfl) (by rfl)) ?_
      refine JW_1 (by exact op_nilCheck (Ev.rfl' rfl)) ?_
      refine JW_1 (by exact op_fieldPtr (k := 0) (Ev.rfl' rfl) rfl rfl rfl rfl) ?_
      refine JW_1 (by exact op_loadPtr (Ev.rfl' rfl) memT (by rfl) (by rfl) (by rfl)) ?_
      refine JW_1 (op_move rfl) (JW_1 (by exact op_nilCheck (Ev.rfl' rfl)) ?_)
      refine JW_1 (by exact op_fieldPtr (k := 8) (Ev.rfl' rfl) rfl rfl rfl rfl) ?_
      refine JW_1 (by exact op_loadPtr (Ev.rfl' rfl) memT (by rfl) (by rfl) (by rfl)) ?_
      refine JW_1 (op_move rfl) (JW_1 (by exact op_index (j := k) (Ev.rfl' rfl) (Ev.rfl' rfl) rfl rfl (by rfl) hx) ?_)
      refine JW_1 (by exact op_loadRefsN (n := 2) (Ev.rfl' rfl) rfl rfl rfl (by rfl) nrmT) ?_
      refine JW_1 (by ((refine op_callB lendT Tryz.call9 (hopen) ⟨evS, ⟨evS, ⟨evS, trivial⟩⟩⟩ pureT))) ?_
      refine JW_1 (op_move rfl) (JW_1 (op_extract (Ev.rfl' rfl) rfl) (JW_1 (op_extract (Ev.rfl' rfl) rfl) (JW_1 (op_extract (Ev.rfl' rfl) rfl) (JW_n (op_allocN rfl nrmT rfl) ?_))))
      refine JW_write rfl rfl rfl (by kernel_rfl) (op_storeWN evS cellsT rfl rfl rfl nrmT) ?_
      refine JW_1 (op_assign rfl) (JW_1 (op_assign rfl) ?_)
      refine ⟨rfl, ?_⟩
      intro i13
      refine JD_end ?_
      refine JQ_then (JC_seq ?_)
      refine JC_region (JL_1 rfl (op_move rfl) (JL_1 rfl (op_move rfl) (JL_1 rfl (by exact op_nilCheck (Ev.rfl' rfl)) ?_)))
      refine JL_1 rfl (by exact op_fieldPtr (k := 9) (Ev.rfl' rfl) rfl rfl rfl rfl) ?_
      refine JL_1 rfl (by exact op_loadPtr (Ev.rfl' rfl) memT (by rfl) (by rfl) (by rfl)) ?_
      refine JL_1 rfl (op_move rfl) (JL_1 rfl (by exact op_indexBuf (k := k) (Ev.rfl' rfl) memT (Ev.rfl' rfl) rfl rfl idxT lenT) ?_)
      refine JL_1 rfl (by exact op_loadBuf0 (Ev.rfl' rfl) memT hz2' rfl rfl (by rfl)) ?_
      refine JL_1 rfl (op_beq rfl (Ev.rfl' rfl) (Ev.rfl' rfl)) (JL_1 rfl (op_move rfl) ?_)
      (refine JL_i0 rfl rfl rfl (fun hg => (by have hg0 := hg; (try simp at hg); exact op_moveE (Ev.rfl' rfl))) ?_)
      (refine JL_i0 rfl rfl rfl (fun hg => (by have hg0 := hg; (try simp at hg); exact op_nilCheck evG)) ?_)
      (refine JL_i0 rfl rfl rfl (fun hg => (by have hg0 := hg; (try simp at hg); exact op_fieldPtr (k := 9) evG rfl rfl rfl rfl)) ?_)
      (refine JL_i0 rfl rfl rfl (fun hg => (by have hg0 := hg; (try simp at hg); exact op_loadPtr evG memT (by rfl) (by rfl) (by rfl))) ?_)
      (refine JL_i0 rfl rfl rfl (fun hg => (by have hg0 := hg; (try simp at hg); exact op_moveE (Ev.rfl' rfl))) ?_)
      (refine JL_i0 rfl rfl rfl (fun hg => (by have hg0 := hg; (try simp at hg); exact op_indexBuf (k := k) evG memT evG rfl rfl idxT lenT)) ?_)
      (refine JL_i0 rfl rfl rfl (fun hg => (by have hg0 := hg; (try simp at hg); exact op_loadBuf0 evG memT hz2' rfl rfl (by rfl))) ?_)
      (refine JL_i0 rfl rfl rfl (fun hg => (by have hg0 := hg; (try simp at hg); exact op_moveE (Ev.sub rfl (SubL.iteT (by assumption) SubL.rfl')))) ?_)
      (refine JL_i rfl rfl rfl (fun hp hg => (by have hpg := Bool.and_eq_true_iff.2 ⟨hp, hg⟩; have hg0 := hg; (try simp at hg); exact op_moveE (Ev.rfl' rfl))) ?_)
      (refine JL_i rfl rfl rfl (fun hp hg => (by have hpg := Bool.and_eq_true_iff.2 ⟨hp, hg⟩; have hg0 := hg; (try simp at hg); exact op_neq evG evG)) ?_)
      (refine JL_i0 rfl rfl rfl (fun hg => (by have hg0 := hg; (try simp at hg); exact op_and evG rfl (fun h => by exact SubL.iteT (by (rw [h]; rfl)) SubL.rfl'))) ?_)
      refine JL_1 rfl (op_or (Ev.rfl' rfl) rfl (fun h => by exact SubL.iteT (by (rw [h]; rfl)) SubL.rfl')) ?_
      refine JL_nil (JQ_then ?_)
      refine JC_cond (Ev.rfl' rfl) (fun h27 => ?_) (fun h27 => ?_)
      · exfalso
        cases h1 : a'.fre k with
        | false => rw [h1] at h27; simp at h27
        | true => rw [h1] at h27; simp at h27
      refine JC_skip (JQ_block (JQ_then ?_))
      refine JC_region (JL_1 rfl (op_move rfl) (JL_1 rfl (op_add (Ev.rfl' rfl) (Ev.rfl' rfl) wrapT) ?_))
      refine JL_1 rfl (op_assign rfl) (JL_nil ?_)
      exact JQ_roundP (k + 1) (by omega) (by omega) esubT lessT
    have hke : k = 12 := by have := of_decide_eq_false h15; omega
    clear h15
    subst hke
    rw [Gs_end]
    refine JC_exit (JQ_then_exit (JQ_then_exit (JQ_hit (JQ_then (JC_seq ?_)))))
    refine JC_region (JL_1 rfl (op_assign rfl) (JL_nil ?_))
    refine JQ_then (JC_block ?_)
    refine JC_loopP (fun d : Nat => d ≤ 6) (fun d => [(1, IsSl tMw l), (5, Is (.pointer (some ⟨bw, 0, none⟩))), (7, Is (slV 12 (some ⟨i37, 0, none⟩, 12))), (8, Is (.int .i64 (i : Nat))), (16, Is (.int .i64 (d : Nat)))]) (fun d => buf (slV 12 (some ⟨i37, 0, none⟩, 12)) 61 tG6 (gRow (updG a a' G)) :: WL bw hp n z0 z1 z2 tos a' H') (fun d => 6 - d) 0 (Nat.zero_le _) esubT lessT ?_
    intro d hd
    refine JC_seq (JC_seq ?_)
    refine JC_region (JL_1 rfl (op_move rfl) (JL_1 rfl (op_lss (Ev.rfl' rfl) (Ev.rfl' rfl)) (JL_nil (JQ_then ?_))))
    refine JC_cond (Ev.rfl' rfl) (fun h30 => ?_) (fun h30 => ?_)
    · have hd6 : d < 6 := by have := of_decide_eq_true h30; omega
      clear h30
      have hpr := pinI_rng hI' d
      have hgb' := hW'.gb
      have hsub : IntKind.i64.wrap (pinI a' d - 1) = pinI a' d - 1 := wI64 (by omega)
      refine JC_skip (JQ_then (JC_seq (JC_block (JC_seq ?_))))
      refine JC_dr rfl (by kernel_rfl) ?_
      refine JD_stretch 34 (by kernel_rfl) ?_
      refine JW_1 (op_move rfl) (JW_1 (op_move rfl) (JW_1 (by exact op_nilCheck (Ev.rfl' rfl)) ?_))
      refine JW_1 (by exact op_fieldPtr (k := 1) (Ev.rfl' rfl) rfl rfl rfl rfl) ?_
      refine JW_1 (op_indexArr (k := d) (sz := 1) (Ev.rfl' rfl) (Ev.rfl' rfl) rfl rfl idxT (by omega)) ?_
      refine JW_1 (op_loadPtr (Ev.rfl' rfl) memT rfl rfl (pin_at _ _ _ _ _ _ hd6)) ?_
      refine JW_1 (op_gtr (Ev.rfl' rfl) (Ev.rfl' rfl)) (JW_1 (op_move rfl) ?_)
      (refine JW_i0 rfl rfl (fun hg => (by have hg0 := hg; (try simp at hg); exact op_moveE (Ev.rfl' rfl))) ?_)
      (refine JW_i0 rfl rfl (fun hg => (by have hg0 := hg; (try simp at hg); exact op_moveE (Ev.rfl' rfl))) ?_)
      (refine JW_i0 rfl rfl (fun hg => (by have hg0 := hg; (try simp at hg); exact op_nilCheck evG)) ?_)
      (refine JW_i0 rfl rfl (fun hg => (by have hg0 := hg; (try simp at hg); exact op_fieldPtr (k := 1) evG rfl rfl rfl rfl)) ?_)
      (refine JW_i0 rfl rfl (fun hg => (by have hg0 := hg; (try simp at hg); exact op_indexArr (k := d) (sz := 1) evG evG rfl rfl idxT (by omega))) ?_)
      (refine JW_i0 rfl rfl (fun hg => (by have hg0 := hg; (try simp at hg); exact op_loadPtr evG2 memT rfl rfl (pin_at _ _ _ _ _ _ hd6))) ?_)
      (refine JW_i0 rfl rfl (fun hg => (by have hg0 := hg; (try simp at hg); exact op_sub evG2 evG2 hsub)) ?_)
      (refine JW_i0 rfl rfl (fun hg => (by have hg0 := hg; (try simp at hg); exact op_moveE (Ev.rfl' rfl))) ?_)
      (refine JW_i0 rfl rfl (fun hg => (by have hg0 := hg; (try simp at hg); exact op_nilCheck evG)) ?_)
      (refine JW_i0 rfl rfl (fun hg => (by have hg0 := hg; (try simp at hg); exact op_fieldPtr (k := 10) evG rfl rfl rfl rfl)) ?_)
      (refine JW_i0 rfl rfl (fun hg => (by have hg0 := hg; (try simp at hg); exact op_loadPtr evG memT (by rfl) (by rfl) (by rfl))) ?_)
      (refine JW_i0 rfl rfl (fun hg => (by have hg0 := hg; (try simp at hg); exact op_neq evG evG)) ?_)
      refine JW_1 (op_and (Ev.rfl' rfl) rfl (fun h => by exact SubL.iteT (by (rw [h]; rfl)) SubL.rfl')) ?_
      refine JW_1 (op_move rfl) ?_
      (refine JW_i0 rfl rfl (fun hg => (by have hg0 := hg; (try simp at hg); exact op_moveE (Ev.rfl' rfl))) ?_)
      (refine JW_i0 rfl rfl (fun hg => (by have hg0 := hg; (try simp at hg); exact op_moveE (Ev.rfl' rfl))) ?_)
      (refine JW_i0 rfl rfl (fun hg => (by have hg0 := hg; (try simp at hg); exact op_nilCheck evG)) ?_)
      (refine JW_i0 rfl rfl (fun hg => (by have hg0 := hg; (try simp at hg); exact op_fieldPtr (k := 1) evG rfl rfl rfl rfl)) ?_)
      (refine JW_i0 rfl rfl (fun hg => (by have hg0 := hg; (try simp at hg); exact op_indexArr (k := d) (sz := 1) evG evG rfl rfl idxT (by omega))) ?_)
      (refine JW_i0 rfl rfl (fun hg => (by have hg0 := hg; (try simp at hg); exact op_loadPtr evG2 memT rfl rfl (pin_at _ _ _ _ _ _ hd6))) ?_)
      (refine JW_i0 rfl rfl (fun hg => (by have hg0 := hg; (try simp at hg); exact op_moveE (Ev.rfl' rfl))) ?_)
      (refine JW_i0 rfl rfl (fun hg => (by have hg0 := hg; (try simp at hg); exact op_nilCheck evG)) ?_)
      (refine JW_i0 rfl rfl (fun hg => (by have hg0 := hg; (try simp at hg); exact op_fieldPtr (k := 10) evG rfl rfl rfl rfl)) ?_)
      (refine JW_i0 rfl rfl (fun hg => (by have hg0 := hg; (try simp at hg); exact op_loadPtr evG memT (by rfl) (by rfl) (by rfl))) ?_)
      (refine JW_i0 rfl rfl (fun hg => (by have hg0 := hg; (try simp at hg); exact op_neq evG evG)) ?_)
      refine JW_1 (op_and (Ev.rfl' rfl) rfl (fun h => by exact SubL.iteT (by (rw [h]; rfl)) SubL.rfl')) ?_
      refine ⟨rfl, ?_⟩
      refine JD_end (JQ_then ?_)
      refine JC_cond (Ev.rfl' rfl) (fun h32 => ?_) (fun h32 => ?_)
      · exfalso
        cases h1 : a'.pin d with
        | none => rw [pinI_none h1] at h32; simp at h32
        | some e =>
          have h2 := hI'.p1 d e h1
          rw [pinI_some h1] at h32
          simp at h32
          omega
      refine JC_skip (JQ_block (JQ_then ?_))
      refine JC_region (JL_1 rfl (op_move rfl) (JL_1 rfl (op_add (Ev.rfl' rfl) (Ev.rfl' rfl) wrapT) ?_))
      refine JL_1 rfl (op_assign rfl) (JL_nil ?_)
      exact JQ_roundP (d + 1) (by omega) (by omega) esubT lessT
    refine JC_exit (JQ_then_exit (JQ_then_exit (JQ_hit (JQ_block (JQ_then ?_)))))
    refine JC_region (JL_1 rfl (op_move rfl) (JL_1 rfl (op_add (Ev.rfl' rfl) (Ev.rfl' rfl) wrapT) ?_))
    refine JL_1 rfl (op_assign rfl) (JL_nil ?_)
    exact JQ_roundP (i + 1, a', H', updG a a' G) ⟨by dsimp only; omega, hW', hAG'⟩ (by dsimp only; omega) esubT lessT
  refine JC_exit (JQ_then_exit (JQ_then_exit (JQ_hit (JQ_then (JC_seq ?_)))))
  refine JC_region (JL_1 rfl (op_assign rfl) (JL_nil ?_))
  refine JQ_then (JC_ret ?_)
  refine JQ_ret1 Tryz.results4 rfl () (SubL.eq ?_) (List.nil_sublist _)
  rfl
end Go.Proofs.YtfkmbdpnjcgimaaGreat
