/- The walk of bodegahand.View: some view, in memory of its own. Own work. -/
import Derived.Test.YthppeaelfcmafaaVc
import Derived.Test.YthppeaelfcmafaaSet
import Derived.Test.YthppeaelfcmafaaPick
import Derived.Deep.DeepCutAuto
namespace Go.Proofs.Ythppeaelfcmafaa
open Go.RowKit
set_option linter.unusedVariables false
/-- A shift to the right of an int. -/
def shrI (a : Int) (n : Nat) : Int := a.fdiv (2 ^ min n 64)
@[go_sem high] theorem shr_i64 {w : Nat} (a : Int) (b : BitVec w) (k : IntKind) : Op.shift .shr .i64 a k (UV b) = pure (.int .i64 (shrI a (shf b))) := by
  unfold Op.shift; rw [if_neg (UV_neg b)]; rfl
theorem own_snoc {w : World} {base : Nat} {e : TypeId} {v : Value} {ms : List Mb} {x y : Int} {z : Bool} (h : w.ownsRow base e 3 v (ms.length + 1) (ms.flatMap Mb.cells ++ [.int .i64 x, .int .i64 y, .bool z])) : w.ownsRow base e 3 v (ms ++ [Mb.mk x y z]).length ((ms ++ [Mb.mk x y z]).flatMap Mb.cells) := by
  rw [List.flatMap_append, List.length_append]
  exact h
set_option maxHeartbeats 4000000 in
set_option maxRecDepth 100000 in
theorem HandView_ex (num mask full : Int) (v : Value) (bs : List Int) (w : World) (h : Sl w v (bs.map (Value.int .i64))) (hb : ∀ x ∈ bs, -9223372036854775808 ≤ x ∧ x ≤ 9223372036854775807) :
    Calls Try.prog 34 #[.int .i64 num, .int .i64 mask, .int .i64 full, v, .int .i64 5] w fun e w' => ∃ (n : Int) (s : Value) (ms : List Mb), e = .returned (.agg #[.int .i64 n, s]) ∧ w'.ownsRow w.heap.size 45 3 s ms.length (ms.flatMap Mb.cells) ∧ 0 < ms.length ∧ ms.length ≤ 5 ∧ Below w.heap.size w w' := by
  obtain ⟨a, c, hv⟩ : ∃ a c, v = .slice a bs.length c := by
    rcases h.cases with ⟨a', c', e, e2⟩ | ⟨b, o, c', e, _⟩
    · have : bs = [] := by simpa using e2
      exact ⟨a', c', by rw [e, this]; rfl⟩
    · exact ⟨_, c', by rw [e, List.length_map]⟩
  subst hv
  obtain ⟨n, hn⟩ : ∃ n, n = bs.length := ⟨_, rfl⟩
  rw [← hn] at h ⊢
  have H := Lib.hid h
  have HN := Lib.hid hn
  have HB := Lib.hid hb
  clear h hn hb
  have L0 : Hid (Live w (w.alloc (.cells #[.int .i64 0, .slice none 0 0] 28)) _) := (Live.start w).alloc _ _
  go_enter Try.func34, Try.ntmps34
  go_wp2_with (go_at_call 10; refine (Pick_ex _ _ _ (by decide) (by decide)).mono ?_; rintro e w' ⟨n0, rfl, p1, q1, _, rfl⟩)
  have L1 := Lib.hid (L0.out.alloc #[.int .i64 n0, .slice none 0 0] 28)
  go_loopw [12, 13, 14] (fun s12 s13 _ wr => ∃ (k : Nat) (s : Value) (an : Bool) (ms : List Mb), k ≤ 5 ∧ s13 = .int .i64 k ∧ s12 = .bool an ∧ Hid (ms.length ≤ k ∧ wr.ownsRow (w.heap.size + 2) 45 3 s ms.length (ms.flatMap Mb.cells)) ∧ Hid (Live w wr [(w.heap.size + 1, 28, #[.int .i64 n0, s]), (w.heap.size, 28, #[.int .i64 0, .slice none 0 0])])) (fun _ s13 _ _ => 5 - (intOf s13).toNat)
  case atStart =>
    refine ⟨0, _, false, [], by omega, rfl, rfl, Lib.hid ⟨by simp, (World.ownsRow_nil _ _ _ _ : World.ownsRow _ _ _ _ _ _ _)⟩, ?_⟩
    have := L1.out
    exact Lib.hid (by simpa using this)
  case round =>
    obtain ⟨k, s, an, ms, hk, rfl, rfl, O, L⟩ := hrel
    have hlw := L.out.l0
    have cb := L.out.c0
    have fb := L.out.f0
    clear p1 q1
    by_cases hlt : k < 5
    · have hltI : (k : Int) < 5 := by omega
      have hml := O.out.1
      by_cases hkn : k < n
      · have hknI : (k : Int) < n := by omega
        obtain ⟨b, o, rfl, hbl, hcl⟩ := H.out.at_ hkn
        have q : wr.cell? ⟨b, o + k, none⟩ = some (.int .i64 (bs.getD k 0)) := by
          rw [L.out.below.cell (p := ⟨b, o + k, none⟩) hbl]
          refine hcl _ ?_
          rw [List.getElem?_map, List.getElem?_eq_getElem (by rw [← HN.out]; exact hkn), List.getD_eq_getElem?_getD, List.getElem?_eq_getElem (by rw [← HN.out]; exact hkn)]
          rfl
        clear hcl
        generalize bs.getD k 0 = bk at *
        have hbw : b < wr.heap.size := by omega
        go_wp2_with (first
          | (go_at_call 10; refine (Pick_ex _ _ _ (by decide) (by decide)).mono ?_; rintro e w' ⟨r, rfl, p1, q1, _, rfl⟩)
          | (at_builtin; refine wpList_app rfl (.tmp 56) (.tmp 58) _ rfl (w.heap.size + 2) 45 _ 3 24 Try.underlying26 mb_info rfl (by omega) _ _ _ rfl ((O.out.2.alloc _).alloc _) _ 1 _ rfl (sl_new' _ _ _ 3 1 1 _ (by simp) rfl (by omega) (by omega)) (by intro u hu; simp at hu; rcases hu with rfl | rfl | rfl <;> rfl) (by omega) (by omega) (by simp; omega) ?_; intro v' w' hown' hg'; obtain ⟨oa, oc, rfl⟩ := own_form hown'; have L2 := Lib.hid (((L.out.alloc' _).alloc' _).callB (below_grown (Below.refl _ _) ((O.out.2.alloc _).alloc _) hg' (Nat.le_refl _) (by simp; omega)) (by omega) (by intro x hx; simp at hx; rcases hx with rfl | rfl <;> simp)); have O2 := Lib.hid hown'; clear hown' hg' cb fb; have cb := L2.out.c0; have fb := L2.out.f0))
        · go_roundw
          case rel => exact ⟨k + 1, _, _, ms, by omega, by go_num, rfl, Lib.hid ⟨by omega, O.out.2⟩, L.out⟩
          case measure => simp [intOf]; omega
        all_goals
          go_roundw
          case rel =>
            exact ⟨k + 1, _, _, _, by omega, by go_num, rfl, Lib.hid ⟨by rw [List.length_append]; simp; omega, ownsRow_setCell_below (own_snoc O2.out) (a := ⟨w.heap.size + 1, 1, none⟩) (by show w.heap.size + 1 < _; omega) _⟩, L2.out.set0 (by intro x hx; simp at hx; subst hx; simp) 1 _⟩
          case measure => simp [intOf]; omega
      · have hknI : ¬ (k : Int) < n := by omega
        go_wp2_with (first
          | (go_at_call 10; refine (Pick_ex _ _ _ (by decide) (by decide)).mono ?_; rintro e w' ⟨r, rfl, p1, q1, _, rfl⟩)
          | (at_builtin; refine wpList_app rfl (.tmp 56) (.tmp 58) _ rfl (w.heap.size + 2) 45 _ 3 24 Try.underlying26 mb_info rfl (by omega) _ _ _ rfl ((O.out.2.alloc _).alloc _) _ 1 _ rfl (sl_new' _ _ _ 3 1 1 _ (by simp) rfl (by omega) (by omega)) (by intro u hu; simp at hu; rcases hu with rfl | rfl | rfl <;> rfl) (by omega) (by omega) (by simp; omega) ?_; intro v' w' hown' hg'; obtain ⟨oa, oc, rfl⟩ := own_form hown'; have L2 := Lib.hid (((L.out.alloc' _).alloc' _).callB (below_grown (Below.refl _ _) ((O.out.2.alloc _).alloc _) hg' (Nat.le_refl _) (by simp; omega)) (by omega) (by intro x hx; simp at hx; rcases hx with rfl | rfl <;> simp)); have O2 := Lib.hid hown'; clear hown' hg' cb fb; have cb := L2.out.c0; have fb := L2.out.f0))
        · go_roundw
          case rel => exact ⟨k + 1, _, _, ms, by omega, by go_num, rfl, Lib.hid ⟨by omega, O.out.2⟩, L.out⟩
          case measure => simp [intOf]; omega
        all_goals
          go_roundw
          case rel =>
            exact ⟨k + 1, _, _, _, by omega, by go_num, rfl, Lib.hid ⟨by rw [List.length_append]; simp; omega, ownsRow_setCell_below (own_snoc O2.out) (a := ⟨w.heap.size + 1, 1, none⟩) (by show w.heap.size + 1 < _; omega) _⟩, L2.out.set0 (by intro x hx; simp at hx; subst hx; simp) 1 _⟩
          case measure => simp [intOf]; omega
    · have hk5 : k = 5 := by omega
      subst hk5
      have hml := O.out.1
      have cr := L.out.tail.c0
      have fr := L.out.tail.f0
      by_cases h0 : ms.length = 0
      · have e0 : ms = [] := List.eq_nil_of_length_eq_zero h0
        subst e0
        have hlw2 : w.heap.size < wr.heap.size := by omega
        obtain ⟨oa, oc, rfl⟩ := own_form O.out.2
        have L3 := Lib.hid (L.out.set0 (by simp) 1 (.slice (some ⟨wr.heap.size, 0, none⟩) 1 1))
        have LY := Lib.hid ((L3.out.tail.set0 (by simp) 0 (.int .i64 n0)).set0 (by simp) 1 (.slice (some ⟨wr.heap.size, 0, none⟩) 1 1))
        obtain ⟨Y, hY⟩ : ∃ Y, Y = (((wr.setCell ⟨w.heap.size + 1, 1, none⟩ (.slice (some ⟨wr.heap.size, 0, none⟩) 1 1)).setCell ⟨w.heap.size, 0, none⟩ (.int .i64 n0)).setCell ⟨w.heap.size, 1, none⟩ (.slice (some ⟨wr.heap.size, 0, none⟩) 1 1)) := ⟨_, rfl⟩
        have hYs : Y.heap.size = wr.heap.size := by rw [hY]; simp
        have OX := Lib.hid (fun b => World.ownsRow_lit (base := w.heap.size) (e := 45) (size := 3) Y #[.int .i64 0, .int .i64 1, .bool b] 1 (by omega) (by decide) rfl)
        rw [hYs] at OX
        cases an with
        | true =>
          clear hYs
          go_wp2
          rw [← hY] at LY ⊢
          clear hY
          have LX := Lib.hid (LY.out.alloc' (.cells #[.int .i64 0, .int .i64 1, .bool false] 45))
          have cF := LX.out.c0
          exact bodyPost_ret (v := .agg #[.int .i64 n0, .slice (some ⟨wr.heap.size, 0, none⟩) 1 1]) (by simp [results, Try.results34, go_sem, cF]) rfl ⟨n0, _, rfl, [Mb.mk 0 1 false], OX.out false, by decide, by decide, LX.out.below⟩
        | false =>
          clear hYs
          go_wp2
          rw [← hY] at LY ⊢
          clear hY
          have LX := Lib.hid (LY.out.alloc' (.cells #[.int .i64 0, .int .i64 1, .bool true] 45))
          have cF := LX.out.c0
          exact bodyPost_ret (v := .agg #[.int .i64 n0, .slice (some ⟨wr.heap.size, 0, none⟩) 1 1]) (by simp [results, Try.results34, go_sem, cF]) rfl ⟨n0, _, rfl, [Mb.mk 0 1 true], OX.out true, by decide, by decide, LX.out.below⟩
      · have hp : 0 < ms.length := by omega
        have hpI : (0 : Int) < (ms.length : Int) := by omega
        have hz : ((ms.length : Int) == 0) = false := by rw [beq_eq_false_iff_ne]; omega
        obtain ⟨g, oc, rfl, hg1, hg2⟩ := own_some O.out.2 hp
        have O2 := Lib.hid O.out.2
        have c2 := (Mb.cell_at O2.out 0 hp rfl).2.2
        rw [Nat.zero_mul, Nat.zero_add] at c2
        have f2 := own_frozenAt O2.out 2
        have hlw2 : w.heap.size < wr.heap.size := by omega
        have OS := Lib.hid (Mb.flat_setF ms 0 true hp ▸ own_setcell O2.out 2 (by omega) (.bool true))
        have OL : Hid ((Mb.setF ms 0 true).length = ms.length) := Mb.setF_len ms 0 true
        generalize Mb.at ms 0 = m0 at *
        obtain ⟨m0n, m0b, m0f⟩ := m0
        dsimp only at c2
        have LS := Lib.hid (L.out.setO (b := g) (by omega) (by intro x hx; simp at hx; rcases hx with rfl | rfl <;> (simp; omega)) 2 (.bool true))
        have hgB : ¬ g = w.heap.size := by omega
        have hgB1 : ¬ g = w.heap.size + 1 := by omega
        cases an with
        | true =>
          generalize hl : ms.length = n at *
          go_wp2
          have LF := Lib.hid ((L.out.tail.set0 (by simp) 0 (.int .i64 n0)).set0 (by simp) 1 (.slice (some ⟨g, 0, none⟩) n oc))
          have OF := Lib.hid (ownsRow_setCell_below (ownsRow_setCell_below O2.out (a := ⟨w.heap.size, 0, none⟩) (by show w.heap.size < _; omega) (.int .i64 n0)) (a := ⟨w.heap.size, 1, none⟩) (by show w.heap.size < _; omega) (.slice (some ⟨g, 0, none⟩) n oc))
          obtain ⟨W, hW⟩ : ∃ W, W = (wr.setCell ⟨w.heap.size, 0, none⟩ (.int .i64 n0)).setCell ⟨w.heap.size, 1, none⟩ (.slice (some ⟨g, 0, none⟩) n oc) := ⟨_, rfl⟩
          rw [← hW] at LF OF ⊢
          clear hW
          have cF := LF.out.c0
          exact bodyPost_ret (v := .agg #[.int .i64 n0, .slice (some ⟨g, 0, none⟩) n oc]) (by simp [results, Try.results34, go_sem, cF]) rfl ⟨n0, _, ms, rfl, by rw [hl]; exact own_mono OF.out (by omega), by omega, by omega, LF.out.below⟩
        | false =>
          generalize hl : ms.length = n at *
          go_wp2
          have LF := Lib.hid ((LS.out.tail.set0 (by simp) 0 (.int .i64 n0)).set0 (by simp) 1 (.slice (some ⟨g, 0, none⟩) n oc))
          have OF := Lib.hid (ownsRow_setCell_below (ownsRow_setCell_below OS.out (a := ⟨w.heap.size, 0, none⟩) (by show w.heap.size < _; omega) (.int .i64 n0)) (a := ⟨w.heap.size, 1, none⟩) (by show w.heap.size < _; omega) (.slice (some ⟨g, 0, none⟩) n oc))
          obtain ⟨W, hW⟩ : ∃ W, W = ((wr.setCell ⟨g, 2, none⟩ (.bool true)).setCell ⟨w.heap.size, 0, none⟩ (.int .i64 n0)).setCell ⟨w.heap.size, 1, none⟩ (.slice (some ⟨g, 0, none⟩) n oc) := ⟨_, rfl⟩
          rw [← hW] at LF OF ⊢
          clear hW
          have cF := LF.out.c0
          exact bodyPost_ret (v := .agg #[.int .i64 n0, .slice (some ⟨g, 0, none⟩) n oc]) (by simp [results, Try.results34, go_sem, cF]) rfl ⟨n0, _, Mb.setF ms 0 true, rfl, by rw [OL.out]; exact own_mono OF.out (by omega), by rw [OL.out]; omega, by rw [OL.out]; omega, LF.out.below⟩
end Go.Proofs.Ythppeaelfcmafaa
