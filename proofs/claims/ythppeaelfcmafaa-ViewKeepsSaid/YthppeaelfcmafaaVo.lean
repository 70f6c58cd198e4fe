/- The walk of view.Propose. Own work. -/
import Derived.Test.YthppeaelfcmafaaVn
import Derived.Test.YthppeaelfcmafaaVi
import Derived.Test.YthppeaelfcmafaaSet
namespace Go.Proofs.Ythppeaelfcmafaa
open Go.RowKit
set_option linter.unusedVariables false
/-- Whether a node's member of the next view is full. -/
def propF (ms : List Mb) (opened : Bool) (k : Nat) (boot : Int) : Bool := (findM ms k).isSome && (((findM ms k).getD ⟨0, 0, false⟩).b == boot && (((findM ms k).getD ⟨0, 0, false⟩).f || opened))
def prop1 (ms : List Mb) (opened : Bool) (bs : List Int) (k : Nat) : List Mb := if bs.getD k 0 = 0 then [] else [⟨k, bs.getD k 0, propF ms opened k (bs.getD k 0)⟩]
def propM (ms : List Mb) (opened : Bool) (bs : List Int) (k : Nat) : List Mb := (List.range k).flatMap (prop1 ms opened bs)
theorem propM_succ (ms : List Mb) (opened : Bool) (bs : List Int) (k : Nat) : propM ms opened bs (k + 1) = propM ms opened bs k ++ prop1 ms opened bs k := by
  unfold propM; rw [List.range_succ, List.flatMap_append]; simp
theorem propM_len (ms : List Mb) (opened : Bool) (bs : List Int) (k : Nat) : (propM ms opened bs k).length ≤ k := by
  induction k with
  | zero => simp [propM]
  | succ k ih => rw [propM_succ, List.length_append]; unfold prop1; split <;> (simp; omega)
def okB (bs : List Int) (k : Nat) : Prop := 0 ≤ bs.getD k 0 ∧ bs.getD k 0 ≤ 31
instance (bs : List Int) (k : Nat) : Decidable (okB bs k) := by unfold okB; infer_instance
/-- The view that follows, and the code. -/
def propV (num : Int) (ms : List Mb) (opened : Bool) (bs : List Int) : Int × List Mb × Int :=
  if validV num ms bs.length ≠ 0 then (0, [], validV num ms bs.length) else if ¬ ∀ k, k < bs.length → okB bs k then (0, [], 2) else if 15 ≤ num then (0, [], 12)
  else if 2 * (propM ms opened bs bs.length).length ≤ bs.length then (0, [], 9) else if ¬ (propM ms opened bs bs.length).any Mb.f then (0, [], 13) else (num + 1, propM ms opened bs bs.length, 0)
section
variable {num : Int} {ms : List Mb} {opened : Bool} {bs : List Int}
theorem propV_bad (h : validV num ms bs.length ≠ 0) : propV num ms opened bs = (0, [], validV num ms bs.length) := by unfold propV; rw [if_pos h]
theorem propV_range (h : validV num ms bs.length = 0) (h2 : ¬ ∀ k, k < bs.length → okB bs k) : propV num ms opened bs = (0, [], 2) := by unfold propV; rw [if_neg (not_not_intro h), if_pos h2]
theorem propV_num (h : validV num ms bs.length = 0) (h2 : ∀ k, k < bs.length → okB bs k) (h3 : 15 ≤ num) : propV num ms opened bs = (0, [], 12) := by unfold propV; rw [if_neg (not_not_intro h), if_neg (not_not_intro h2), if_pos h3]
theorem propV_maj (h : validV num ms bs.length = 0) (h2 : ∀ k, k < bs.length → okB bs k) (h3 : ¬ 15 ≤ num) (h4 : 2 * (propM ms opened bs bs.length).length ≤ bs.length) : propV num ms opened bs = (0, [], 9) := by
  unfold propV; rw [if_neg (not_not_intro h), if_neg (not_not_intro h2), if_neg h3, if_pos h4]
theorem propV_none (h : validV num ms bs.length = 0) (h2 : ∀ k, k < bs.length → okB bs k) (h3 : ¬ 15 ≤ num) (h4 : ¬ 2 * (propM ms opened bs bs.length).length ≤ bs.length) (h5 : (propM ms opened bs bs.length).any Mb.f = false) : propV num ms opened bs = (0, [], 13) := by
  unfold propV; rw [if_neg (not_not_intro h), if_neg (not_not_intro h2), if_neg h3, if_neg h4, if_pos (by simp [h5])]
theorem propV_ok (h : validV num ms bs.length = 0) (h2 : ∀ k, k < bs.length → okB bs k) (h3 : ¬ 15 ≤ num) (h4 : ¬ 2 * (propM ms opened bs bs.length).length ≤ bs.length) (h5 : (propM ms opened bs bs.length).any Mb.f = true) : propV num ms opened bs = (num + 1, propM ms opened bs bs.length, 0) := by
  unfold propV; rw [if_neg (not_not_intro h), if_neg (not_not_intro h2), if_neg h3, if_neg h4, if_neg (by simp [h5])]
end
set_option maxHeartbeats 8000000 in
set_option maxRecDepth 100000 in
theorem Propose_any (num : Int) (opened : Bool) (v bv : Value) (ms : List Mb) (bs : List Int) (w : World) (h : SlM w v ms) (hs : Sl w bv (bs.map (Value.int .i64))) :
    Calls Try.prog 23 #[.agg #[.int .i64 num, v], .bool opened, bv] w fun e w' => ∃ u, e = .returned (.tuple #[viewV (propV num ms opened bs).1 u, .int .i64 (propV num ms opened bs).2.2]) ∧ SlM w' u (propV num ms opened bs).2.1 ∧ Below w.heap.size w w' := by
  obtain ⟨a, c, rfl⟩ := h.form
  obtain ⟨ba, bc, rfl⟩ := hs.form1
  obtain ⟨n, hn⟩ : ∃ n, n = bs.length := ⟨_, rfl⟩
  have H := Lib.hid h
  have HS := Lib.hid hs
  have L0 := Lib.hid (((Live.start w).alloc #[.int .i64 num, .slice a ms.length c] 28).alloc #[.int .i64 0, .slice none 0 0] 28)
  simp only [World.size_alloc] at L0
  have V := Lib.hid (fun W (hW : SlM W (.slice a ms.length c) ms) => Valid_any num bs.length _ ms W hW)
  have V1 := Lib.hid (H.out.below L0.out.below)
  have F := Lib.hid (fun W (node : Int) (hW : SlM W (.slice a ms.length c) ms) => Find_any num node _ ms W hW)
  have PB := Lib.hid (fun h => propV_bad (num := num) (ms := ms) (opened := opened) (bs := bs) h)
  have PR := Lib.hid (fun h h2 => propV_range (num := num) (ms := ms) (opened := opened) (bs := bs) h h2)
  have PN := Lib.hid (fun h h2 h3 => propV_num (num := num) (ms := ms) (opened := opened) (bs := bs) h h2 h3)
  have PM := Lib.hid (fun h h2 h3 h4 => propV_maj (num := num) (ms := ms) (opened := opened) (bs := bs) h h2 h3 h4)
  have PO := Lib.hid (fun h h2 h3 h4 h5 => propV_none (num := num) (ms := ms) (opened := opened) (bs := bs) h h2 h3 h4 h5)
  have PK := Lib.hid (fun h h2 h3 h4 h5 => propV_ok (num := num) (ms := ms) (opened := opened) (bs := bs) h h2 h3 h4 h5)
  clear h hs
  rw [← hn] at HS V PB PR PN PM PO PK ⊢
  have HN := Lib.hid hn
  clear hn
  generalize ms.length = mn at *
  by_cases g : validV num ms n = 0
  case neg =>
    have R := Lib.hid (PB.out g)
    generalize validV num ms n = z at *
    have g' : (z != 0) = true := by rw [bne_iff_ne]; exact g
    clear g
    go_enter Try.func23, Try.ntmps23
    go_wp2_with (go_at_call 19; refine (V.out _ V1.out).mono ?_; rintro e w1 ⟨rfl, hb1⟩; have L1 := Lib.hid (L0.out.call hb1); clear hb1; have cr := L1.out.c0; have fr := L1.out.f0; have cv := L1.out.tail.c0)
    have LF := Lib.hid ((L1.out.set0 (by simp) 0 (.int .i64 0)).set0 (by simp) 1 (.slice none 0 0))
    obtain ⟨W, hW⟩ : ∃ W, W = (w1.setCell ⟨w.heap.size + 1, 0, none⟩ (.int .i64 0)).setCell ⟨w.heap.size + 1, 1, none⟩ (.slice none 0 0) := ⟨_, rfl⟩
    rw [← hW] at LF ⊢
    clear hW
    have cF := LF.out.c0
    refine bodyPost_ret (v := .tuple #[viewV 0 (.slice none 0 0), .int .i64 z]) (by simp [results, Try.results23, go_sem, viewV, cF]) rfl ⟨_, by (rw [R.out]; try rfl), ?_, LF.out.below⟩
    rw [R.out]; exact SlM.nil _
  case pos =>
  have G := Lib.hid (validV_zero g)
  have G0 := Lib.hid g
  rw [g] at V
  clear g
  have n1 : 1 ≤ n := by have := G.out.1.1; omega
  have n5 : n ≤ 5 := by have := G.out.1.2; omega
  have u1 : 0 ≤ num := G.out.2.1.1
  have u2 : num < 16 := G.out.2.1.2
  go_enter Try.func23, Try.ntmps23
  go_wp2_with (go_at_call 19; refine (V.out _ V1.out).mono ?_; rintro e w1 ⟨rfl, hb1⟩; have L1 := Lib.hid (L0.out.call hb1); clear hb1; have cr := L1.out.c0; have fr := L1.out.f0; have cv := L1.out.tail.c0)
  have L2 := Lib.hid (L1.out.alloc #[.int .i64 (num + 1), .slice none 0 0] 28)
  have sz1 := L1.out.l0
  clear cr fr cv
  generalize w1.heap.size = b9 at *
  go_loopw [10, 11, 12, 13, 28] (fun _ _ _ _ s28 wr => ∃ (k : Nat) (s : Value), k ≤ n ∧ s28 = .int .i64 k ∧ Hid (∀ j, j < k → okB bs j) ∧ Hid (wr.ownsRow (b9 + 1) 45 3 s (propM ms opened bs k).length ((propM ms opened bs k).flatMap Mb.cells)) ∧ Hid (Live w wr [(b9, 28, #[.int .i64 (num + 1), s]), (w.heap.size + 1, 28, #[.int .i64 0, .slice none 0 0]), (w.heap.size, 28, #[.int .i64 num, .slice a mn c])])) (fun _ _ _ _ s28 _ => n - (intOf s28).toNat)
  case atStart =>
    exact ⟨0, _, by omega, rfl, (fun j hj => absurd hj (Nat.not_lt_zero _) : ∀ j, j < 0 → okB bs j), (World.ownsRow_nil _ _ _ _ : World.ownsRow _ _ _ _ _ _ _), L2⟩
  case round =>
    obtain ⟨k, s, hk, rfl, A, O, L⟩ := hrel
    have hl9 := L.out.l0
    have c9 := L.out.c0
    have f9 := L.out.f0
    have cr := L.out.tail.c0
    have fr := L.out.tail.f0
    have cv := L.out.tail.tail.c0
    have hlen := propM_len ms opened bs k
    by_cases hlt : k < n
    · have hltI : (k : Int) < n := by omega
      obtain ⟨b, o, rfl, hb, hcl⟩ := HS.out.at_ hlt
      have q : wr.cell? ⟨b, o + k, none⟩ = some (.int .i64 (bs.getD k 0)) := by
        rw [L.out.below.cell (p := ⟨b, o + k, none⟩) hb]
        refine hcl _ ?_
        rw [List.getElem?_map, List.getElem?_eq_getElem (by rw [← HN.out]; exact hlt), List.getD_eq_getElem?_getD, List.getElem?_eq_getElem (by rw [← HN.out]; exact hlt)]
        rfl
      clear hcl
      have hbw : b < wr.heap.size := by have := L.out.size; omega
      have hS := Lib.hid (propM_succ ms opened bs k)
      have hA : Hid (okB bs k → ∀ j, j < k + 1 → okB bs j) := fun h j hj => by
        rcases (show j < k ∨ j = k by omega) with h3 | h3
        · exact A.out j h3
        · rw [h3]; exact h
      have hBad : Hid (¬ okB bs k → propV num ms opened bs = (0, [], 2)) := fun h => PR.out G0.out (fun h2 => h (h2 k hlt))
      have hP : Hid (prop1 ms opened bs k = if bs.getD k 0 = 0 then [] else [⟨k, bs.getD k 0, propF ms opened k (bs.getD k 0)⟩]) := rfl
      unfold okB at hA hBad
      generalize bs.getD k 0 = boot at *
      by_cases hb1' : 0 ≤ boot
      case neg =>
        have R := Lib.hid (hBad.out (fun h => hb1' h.1))
        have hx : boot < 0 := by omega
        clear hb1'
        go_wp2
        have LF := Lib.hid ((L.out.tail.set0 (by simp) 0 (.int .i64 0)).set0 (by simp) 1 (.slice none 0 0))
        obtain ⟨W, hW⟩ : ∃ W, W = (wr.setCell ⟨w.heap.size + 1, 0, none⟩ (.int .i64 0)).setCell ⟨w.heap.size + 1, 1, none⟩ (.slice none 0 0) := ⟨_, rfl⟩
        rw [← hW] at LF ⊢
        clear hW
        have cF := LF.out.c0
        refine bodyPost_ret (v := .tuple #[viewV 0 (.slice none 0 0), .int .i64 2]) (by simp [results, Try.results23, go_sem, viewV, cF]) rfl ⟨_, by (rw [R.out]; try rfl), ?_, LF.out.below⟩
        rw [R.out]; exact SlM.nil _
      case pos =>
      by_cases hb2' : boot ≤ 31
      case neg =>
        have R := Lib.hid (hBad.out (fun h => hb2' h.2))
        have hx : 31 < boot := by omega
        clear hb2'
        go_wp2
        have LF := Lib.hid ((L.out.tail.set0 (by simp) 0 (.int .i64 0)).set0 (by simp) 1 (.slice none 0 0))
        obtain ⟨W, hW⟩ : ∃ W, W = (wr.setCell ⟨w.heap.size + 1, 0, none⟩ (.int .i64 0)).setCell ⟨w.heap.size + 1, 1, none⟩ (.slice none 0 0) := ⟨_, rfl⟩
        rw [← hW] at LF ⊢
        clear hW
        have cF := LF.out.c0
        refine bodyPost_ret (v := .tuple #[viewV 0 (.slice none 0 0), .int .i64 2]) (by simp [results, Try.results23, go_sem, viewV, cF]) rfl ⟨_, by (rw [R.out]; try rfl), ?_, LF.out.below⟩
        rw [R.out]; exact SlM.nil _
      case pos =>
      by_cases hb0 : boot = 0
      case pos =>
        have hP' : Hid (prop1 ms opened bs k = []) := by show prop1 ms opened bs k = _; rw [hP.out, if_pos hb0]
        subst hb0
        have hA' := Lib.hid (hA.out ⟨hb1', hb2'⟩)
        go_wp2
        go_roundw
        case rel =>
          refine ⟨k + 1, _, by omega, by go_num, hA'.out, ?_, L.out⟩
          show World.ownsRow _ _ _ _ _ _ _
          rw [hS.out, hP'.out, List.append_nil]
          exact O.out
        case measure => simp [intOf]; omega
      case neg =>
      have hb0e : (boot == 0) = false := by rw [beq_eq_false_iff_ne]; exact hb0
      have hb0 := Lib.hid hb0
      have hn1 : ¬ boot < 0 := by omega
      have hn2 : ¬ 31 < boot := by omega
      obtain ⟨⟨x, y, z⟩, hm⟩ : ∃ m : Mb, m = (findM ms k).getD ⟨0, 0, false⟩ := ⟨_, rfl⟩
      obtain ⟨okk, ho⟩ : ∃ o, o = (findM ms k).isSome := ⟨_, rfl⟩
      have FK := Lib.hid (F.out wr k (H.out.below L.out.below))
      have hPF : Hid (propF ms opened k boot = (okk && (y == boot && (z || opened)))) := by show propF ms opened k boot = _; unfold propF; rw [← hm, ← ho]
      unfold findV at FK
      rw [← hm, ← ho] at FK
      unfold Mb.val at FK
      dsimp only at FK
      clear hm ho
      cases okk with
      | false =>
        have hP' : Hid (prop1 ms opened bs k = [⟨k, boot, false⟩]) := by show prop1 ms opened bs k = _; rw [hP.out, if_neg hb0.out, hPF.out]; simp
        go_wp2_with (first
          | (go_at_call 25; refine FK.out.mono ?_; rintro e w2 ⟨rfl, hb2⟩; have L2 := Lib.hid (L.out.call hb2); have O2 := Lib.hid (own_below O.out hb2 (Nat.le_refl _)); have sz2 := hb2.size; clear hb2 c9 f9 cr fr cv hl9; have hl9 := L2.out.l0; have c9 := L2.out.c0; have f9 := L2.out.f0; have cv := L2.out.tail.tail.c0)
          | (at_builtin; go_must (refine wpList_app rfl (.tmp 49) (.tmp 67) _ rfl (b9 + 1) 45 _ 3 24 Try.underlying26 mb_info rfl (by omega) _ _ _ rfl ((O2.out.alloc _).alloc _) _ 1 _ rfl (sl_new' _ _ _ 3 1 1 _ (by simp) rfl (by omega) (by omega)) (by intro u hu; simp at hu; rcases hu with rfl | rfl | rfl <;> rfl) (by omega) (by omega) (by simp; omega) ?_); intro v' w' hown' hg'; go_must (obtain ⟨oa, oc, rfl⟩ := own_form hown'; have L3 := Lib.hid (((L2.out.alloc' _).alloc' _).callB (below_grown (Below.refl _ _) ((O2.out.alloc _).alloc _) hg' (Nat.le_refl _) (by simp; omega)) (by omega) (by intro x hx; simp at hx; rcases hx with rfl | rfl | rfl <;> (dsimp only; omega))); have O3 := Lib.hid hown'; clear hown' hg' c9 f9 cv; have c9 := L3.out.c0; have f9 := L3.out.f0)))
        go_roundw
        case rel =>
          refine ⟨k + 1, _, by omega, by go_num, hA.out ⟨hb1', hb2'⟩, ?_, L3.out.set0 (by intro x hx; simp at hx; rcases hx with rfl | rfl <;> (simp; omega)) 1 _⟩
          show World.ownsRow _ _ _ _ _ _ _
          rw [hS.out, hP'.out, List.flatMap_append, List.length_append]
          exact ownsRow_setCell_below O3.out (a := ⟨b9, 1, none⟩) (by show b9 < _; omega) _
        case measure => simp [intOf]; omega
      | true =>
      cases hyb : (y == boot) with
      | false =>
        rw [hyb] at hPF
        have hP' : Hid (prop1 ms opened bs k = [⟨k, boot, false⟩]) := by show prop1 ms opened bs k = _; rw [hP.out, if_neg hb0.out, hPF.out]; simp
        go_wp2_with (first
          | (go_at_call 25; refine FK.out.mono ?_; rintro e w2 ⟨rfl, hb2⟩; have L2 := Lib.hid (L.out.call hb2); have O2 := Lib.hid (own_below O.out hb2 (Nat.le_refl _)); have sz2 := hb2.size; clear hb2 c9 f9 cr fr cv hl9; have hl9 := L2.out.l0; have c9 := L2.out.c0; have f9 := L2.out.f0; have cv := L2.out.tail.tail.c0)
          | (at_builtin; go_must (refine wpList_app rfl (.tmp 49) (.tmp 67) _ rfl (b9 + 1) 45 _ 3 24 Try.underlying26 mb_info rfl (by omega) _ _ _ rfl ((O2.out.alloc _).alloc _) _ 1 _ rfl (sl_new' _ _ _ 3 1 1 _ (by simp) rfl (by omega) (by omega)) (by intro u hu; simp at hu; rcases hu with rfl | rfl | rfl <;> rfl) (by omega) (by omega) (by simp; omega) ?_); intro v' w' hown' hg'; go_must (obtain ⟨oa, oc, rfl⟩ := own_form hown'; have L3 := Lib.hid (((L2.out.alloc' _).alloc' _).callB (below_grown (Below.refl _ _) ((O2.out.alloc _).alloc _) hg' (Nat.le_refl _) (by simp; omega)) (by omega) (by intro x hx; simp at hx; rcases hx with rfl | rfl | rfl <;> (dsimp only; omega))); have O3 := Lib.hid hown'; clear hown' hg' c9 f9 cv; have c9 := L3.out.c0; have f9 := L3.out.f0)))
        go_roundw
        case rel =>
          refine ⟨k + 1, _, by omega, by go_num, hA.out ⟨hb1', hb2'⟩, ?_, L3.out.set0 (by intro x hx; simp at hx; rcases hx with rfl | rfl <;> (simp; omega)) 1 _⟩
          show World.ownsRow _ _ _ _ _ _ _
          rw [hS.out, hP'.out, List.flatMap_append, List.length_append]
          exact ownsRow_setCell_below O3.out (a := ⟨b9, 1, none⟩) (by show b9 < _; omega) _
        case measure => simp [intOf]; omega
      | true =>
      rw [hyb] at hPF
      cases z with
      | false =>
        have hP' : Hid (prop1 ms opened bs k = [⟨k, boot, opened⟩]) := by show prop1 ms opened bs k = _; rw [hP.out, if_neg hb0.out, hPF.out]; simp
        go_wp2_with (first
          | (go_at_call 25; refine FK.out.mono ?_; rintro e w2 ⟨rfl, hb2⟩; have L2 := Lib.hid (L.out.call hb2); have O2 := Lib.hid (own_below O.out hb2 (Nat.le_refl _)); have sz2 := hb2.size; clear hb2 c9 f9 cr fr cv hl9; have hl9 := L2.out.l0; have c9 := L2.out.c0; have f9 := L2.out.f0; have cv := L2.out.tail.tail.c0)
          | (at_builtin; go_must (refine wpList_app rfl (.tmp 49) (.tmp 67) _ rfl (b9 + 1) 45 _ 3 24 Try.underlying26 mb_info rfl (by omega) _ _ _ rfl ((O2.out.alloc _).alloc _) _ 1 _ rfl (sl_new' _ _ _ 3 1 1 _ (by simp) rfl (by omega) (by omega)) (by intro u hu; simp at hu; rcases hu with rfl | rfl | rfl <;> rfl) (by omega) (by omega) (by simp; omega) ?_); intro v' w' hown' hg'; go_must (obtain ⟨oa, oc, rfl⟩ := own_form hown'; have L3 := Lib.hid (((L2.out.alloc' _).alloc' _).callB (below_grown (Below.refl _ _) ((O2.out.alloc _).alloc _) hg' (Nat.le_refl _) (by simp; omega)) (by omega) (by intro x hx; simp at hx; rcases hx with rfl | rfl | rfl <;> (dsimp only; omega))); have O3 := Lib.hid hown'; clear hown' hg' c9 f9 cv; have c9 := L3.out.c0; have f9 := L3.out.f0)))
        go_roundw
        case rel =>
          refine ⟨k + 1, _, by omega, by go_num, hA.out ⟨hb1', hb2'⟩, ?_, L3.out.set0 (by intro x hx; simp at hx; rcases hx with rfl | rfl <;> (simp; omega)) 1 _⟩
          show World.ownsRow _ _ _ _ _ _ _
          rw [hS.out, hP'.out, List.flatMap_append, List.length_append]
          exact ownsRow_setCell_below O3.out (a := ⟨b9, 1, none⟩) (by show b9 < _; omega) _
        case measure => simp [intOf]; omega
      | true =>
        have hP' : Hid (prop1 ms opened bs k = [⟨k, boot, true⟩]) := by show prop1 ms opened bs k = _; rw [hP.out, if_neg hb0.out, hPF.out]; simp
        go_wp2_with (first
          | (go_at_call 25; refine FK.out.mono ?_; rintro e w2 ⟨rfl, hb2⟩; have L2 := Lib.hid (L.out.call hb2); have O2 := Lib.hid (own_below O.out hb2 (Nat.le_refl _)); have sz2 := hb2.size; clear hb2 c9 f9 cr fr cv hl9; have hl9 := L2.out.l0; have c9 := L2.out.c0; have f9 := L2.out.f0; have cv := L2.out.tail.tail.c0)
          | (at_builtin; go_must (refine wpList_app rfl (.tmp 49) (.tmp 67) _ rfl (b9 + 1) 45 _ 3 24 Try.underlying26 mb_info rfl (by omega) _ _ _ rfl ((O2.out.alloc _).alloc _) _ 1 _ rfl (sl_new' _ _ _ 3 1 1 _ (by simp) rfl (by omega) (by omega)) (by intro u hu; simp at hu; rcases hu with rfl | rfl | rfl <;> rfl) (by omega) (by omega) (by simp; omega) ?_); intro v' w' hown' hg'; go_must (obtain ⟨oa, oc, rfl⟩ := own_form hown'; have L3 := Lib.hid (((L2.out.alloc' _).alloc' _).callB (below_grown (Below.refl _ _) ((O2.out.alloc _).alloc _) hg' (Nat.le_refl _) (by simp; omega)) (by omega) (by intro x hx; simp at hx; rcases hx with rfl | rfl | rfl <;> (dsimp only; omega))); have O3 := Lib.hid hown'; clear hown' hg' c9 f9 cv; have c9 := L3.out.c0; have f9 := L3.out.f0)))
        go_roundw
        case rel =>
          refine ⟨k + 1, _, by omega, by go_num, hA.out ⟨hb1', hb2'⟩, ?_, L3.out.set0 (by intro x hx; simp at hx; rcases hx with rfl | rfl <;> (simp; omega)) 1 _⟩
          show World.ownsRow _ _ _ _ _ _ _
          rw [hS.out, hP'.out, List.flatMap_append, List.length_append]
          exact ownsRow_setCell_below O3.out (a := ⟨b9, 1, none⟩) (by show b9 < _; omega) _
        case measure => simp [intOf]; omega
    · have hkn : k = n := by omega
      subst hkn
      obtain ⟨oa, oc, rfl⟩ := own_form O.out
      by_cases h15 : 15 ≤ num
      case pos =>
        have R := Lib.hid (PN.out G0.out A.out h15)
        have hx : (16 : Int) ≤ num + 1 := by omega
        clear h15
        go_wp2
        have LF := Lib.hid ((L.out.tail.set0 (by simp) 0 (.int .i64 0)).set0 (by simp) 1 (.slice none 0 0))
        obtain ⟨W, hW⟩ : ∃ W, W = (wr.setCell ⟨w.heap.size + 1, 0, none⟩ (.int .i64 0)).setCell ⟨w.heap.size + 1, 1, none⟩ (.slice none 0 0) := ⟨_, rfl⟩
        rw [← hW] at LF ⊢
        clear hW
        have cF := LF.out.c0
        refine bodyPost_ret (v := .tuple #[viewV 0 (.slice none 0 0), .int .i64 12]) (by simp [results, Try.results23, go_sem, viewV, cF]) rfl ⟨_, by (rw [R.out]; try rfl), ?_, LF.out.below⟩
        rw [R.out]; exact SlM.nil _
      case neg =>
      have hx : ¬ (16 : Int) ≤ num + 1 := by omega
      by_cases hmj : 2 * (propM ms opened bs k).length ≤ k
      case pos =>
        have R := Lib.hid (PM.out G0.out A.out (by omega) (by omega))
        have hy : 2 * ((propM ms opened bs k).length : Int) ≤ (k : Int) := by omega
        clear h15 hmj
        go_wp2
        have LF := Lib.hid ((L.out.tail.set0 (by simp) 0 (.int .i64 0)).set0 (by simp) 1 (.slice none 0 0))
        obtain ⟨W, hW⟩ : ∃ W, W = (wr.setCell ⟨w.heap.size + 1, 0, none⟩ (.int .i64 0)).setCell ⟨w.heap.size + 1, 1, none⟩ (.slice none 0 0) := ⟨_, rfl⟩
        rw [← hW] at LF ⊢
        clear hW
        have cF := LF.out.c0
        refine bodyPost_ret (v := .tuple #[viewV 0 (.slice none 0 0), .int .i64 9]) (by simp [results, Try.results23, go_sem, viewV, cF]) rfl ⟨_, by (rw [R.out]; try rfl), ?_, LF.out.below⟩
        rw [R.out]; exact SlM.nil _
      case neg =>
      have hy : ¬ 2 * ((propM ms opened bs k).length : Int) ≤ (k : Int) := by omega
      have M := Lib.hid (own_slm O.out)
      have CF := Lib.hid (ContainsFull_any _ _ wr M.out)
      cases hf : (propM ms opened bs k).any Mb.f with
      | false =>
        have R := Lib.hid (PO.out G0.out A.out (by omega) (by omega) hf)
        rw [hf] at CF
        clear h15 hmj hf
        generalize (propM ms opened bs k).length = pl at *
        go_wp2_with (go_at_call 36; refine CF.out.mono ?_; rintro e w2 ⟨rfl, hb2⟩; have L2 := Lib.hid (L.out.call hb2); clear hb2 cr fr c9; have cr := L2.out.tail.c0; have fr := L2.out.tail.f0; have c9 := L2.out.c0)
        have LF := Lib.hid ((L2.out.tail.set0 (by simp) 0 (.int .i64 0)).set0 (by simp) 1 (.slice none 0 0))
        obtain ⟨W, hW⟩ : ∃ W, W = (w2.setCell ⟨w.heap.size + 1, 0, none⟩ (.int .i64 0)).setCell ⟨w.heap.size + 1, 1, none⟩ (.slice none 0 0) := ⟨_, rfl⟩
        rw [← hW] at LF ⊢
        clear hW
        have cF := LF.out.c0
        refine bodyPost_ret (v := .tuple #[viewV 0 (.slice none 0 0), .int .i64 13]) (by simp [results, Try.results23, go_sem, viewV, cF]) rfl ⟨_, by (rw [R.out]; try rfl), ?_, LF.out.below⟩
        rw [R.out]; exact SlM.nil _
      | true =>
        have R := Lib.hid (PK.out G0.out A.out (by omega) (by omega) hf)
        rw [hf] at CF
        clear h15 hmj hf
        obtain ⟨pl, hpl⟩ : ∃ pl, pl = (propM ms opened bs k).length := ⟨_, rfl⟩
        rw [← hpl] at O L CF hy hlen c9
        clear hpl M
        go_wp2_with (go_at_call 36; refine CF.out.mono ?_; rintro e w2 ⟨rfl, hb2⟩; have L2 := Lib.hid (L.out.call hb2); have O2 := Lib.hid (own_below O.out hb2 (Nat.le_refl _)); clear hb2 cr fr c9; have cr := L2.out.tail.c0; have fr := L2.out.tail.f0; have c9 := L2.out.c0)
        have LF := Lib.hid ((L2.out.tail.set0 (by simp) 0 (.int .i64 (num + 1))).set0 (by simp) 1 (.slice oa pl oc))
        obtain ⟨W, hW⟩ : ∃ W, W = (w2.setCell ⟨w.heap.size + 1, 0, none⟩ (.int .i64 (num + 1))).setCell ⟨w.heap.size + 1, 1, none⟩ (.slice oa pl oc) := ⟨_, rfl⟩
        have hM : SlM W (.slice oa pl oc) (propM ms opened bs k) := by rw [hW]; exact slm_set O2.out (by omega) _ _ _ _
        rw [← hW] at LF ⊢
        clear hW
        have cF := LF.out.c0
        refine bodyPost_ret (v := .tuple #[viewV (num + 1) (.slice oa pl oc), .int .i64 0]) (by simp [results, Try.results23, go_sem, viewV, cF]) rfl ⟨_, by (rw [R.out]; try rfl), ?_, LF.out.below⟩
        rw [R.out]; exact hM
end Go.Proofs.Ythppeaelfcmafaa
