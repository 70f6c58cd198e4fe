/- The walks of SameView, Same and Equal. Own work. -/
import Derived.Test.YthppeaelfcmafaaMb
import Derived.Test.YthppeaelfcmafaaLive
import Derived.Deep.QuietTactic
import Derived.BigQuiet
namespace Go.Proofs.Ythppeaelfcmafaa
open Go.RowKit
set_option linter.unusedVariables false
/-- Two views are one. -/
def sameV (na nb : Int) (xs ys : List Mb) : Bool := decide (na = nb ∧ xs = ys)
theorem sameV_num {na nb : Int} {xs ys : List Mb} (h : na ≠ nb) : sameV na nb xs ys = false := decide_eq_false (fun e => h e.1)
theorem sameV_mem {na nb : Int} {xs ys : List Mb} (h : xs ≠ ys) : sameV na nb xs ys = false := decide_eq_false (fun e => h e.2)
theorem sameV_eq (na : Int) (xs : List Mb) : sameV na na xs xs = true := decide_eq_true ⟨rfl, rfl⟩
theorem Mb.take_ext {xs ys : List Mb} {n : Nat} (hx : n = xs.length) (hy : n = ys.length) (h : ∀ k, k < n → Mb.at xs k = Mb.at ys k) : xs = ys := Mb.ext_at xs ys (by omega) (fun k hk => h k (by omega))
theorem Mb.ne_at {xs ys : List Mb} {k : Nat} (h : Mb.at xs k ≠ Mb.at ys k) : xs ≠ ys := fun e => h (by rw [e])
set_option maxHeartbeats 2000000 in
set_option maxRecDepth 100000 in
theorem SameView_any (na nb : Int) (u v : Value) (xs ys : List Mb) (w : World) (hx : SlM w u xs) (hy : SlM w v ys) :
    Calls Try.prog 18 #[.agg #[.int .i64 na, u], .agg #[.int .i64 nb, v]] w fun e w' => e = .returned (.bool (sameV na nb xs ys)) ∧ Below w.heap.size w w' := by
  obtain ⟨a, c, rfl⟩ := hx.form
  obtain ⟨a', c', rfl⟩ := hy.form
  have hm := hx.small
  obtain ⟨n, hn⟩ : ∃ n, n = xs.length := ⟨_, rfl⟩
  obtain ⟨n', hn'⟩ : ∃ n', n' = ys.length := ⟨_, rfl⟩
  have hm2 : n ≤ 9223372036854775807 := by unfold maxLen at hm; omega
  clear hm
  rw [← hn] at hx ⊢
  rw [← hn'] at hy ⊢
  have HX := Lib.hid hx
  have HY := Lib.hid hy
  have HN := Lib.hid hn
  have HN' := Lib.hid hn'
  clear hx hy hn hn'
  have L0 : Hid (Live w ((w.alloc (.cells #[.int .i64 na, .slice a n c] 28)).alloc (.cells #[.int .i64 nb, .slice a' n' c'] 28)) _) := ((Live.start w).alloc _ _).alloc _ _
  by_cases g1 : na = nb
  case neg =>
    have R := Lib.hid (sameV_num (xs := xs) (ys := ys) g1)
    have g1' : (na != nb) = true := by rw [bne_iff_ne]; exact g1
    clear g1
    go_enter Try.func18, Try.ntmps18
    go_wp2
    go_ret
    exact ⟨by rw [R.out]; rfl, L0.out.below⟩
  case pos =>
  subst g1
  by_cases g2 : n = n'
  case neg =>
    have R : Hid (sameV na na xs ys = false) := sameV_mem (fun e => g2 (by rw [HN.out, HN'.out, e]))
    have g2' : ((n : Int) != (n' : Int)) = true := by rw [bne_iff_ne]; omega
    clear g2
    go_enter Try.func18, Try.ntmps18
    go_wp2
    go_ret
    exact ⟨by rw [R.out]; rfl, L0.out.below⟩
  case pos =>
  subst g2
  go_enter Try.func18, Try.ntmps18
  go_wp2
  go_loopw [5] (fun i wr => ∃ k : Nat, k ≤ n ∧ i = .int .i64 k ∧ Hid (∀ j, j < k → Mb.at xs j = Mb.at ys j) ∧ Hid (Live w wr [((w.alloc (.cells #[.int .i64 na, .slice a n c] 28)).heap.size, 28, #[.int .i64 na, .slice a' n c']), (w.heap.size, 28, #[.int .i64 na, .slice a n c])])) (fun i _ => n - (intOf i).toNat)
  case atStart => exact ⟨0, by omega, rfl, (fun j hj => absurd hj (Nat.not_lt_zero _) : ∀ j, j < 0 → Mb.at xs j = Mb.at ys j), L0.out⟩
  case round =>
    obtain ⟨k, hk, rfl, A, L⟩ := hrel
    have cb := L.out.c0
    have cb2 := L.out.tail.c0
    simp only [World.size_alloc] at cb
    by_cases hlt : k < n
    · obtain ⟨b, o, rfl, hb, hcl⟩ := HX.out.at_ hlt
      obtain ⟨b', o', rfl, hb', hcl'⟩ := HY.out.at_ hlt
      have q := (hcl k hlt).below L.out.below hb
      have r := (hcl' k hlt).below L.out.below hb'
      clear hcl hcl'
      unfold MbAt at q r
      obtain ⟨q0, q1, q2⟩ := q
      obtain ⟨r0, r1, r2⟩ := r
      have hltI : (k : Int) < n := by omega
      go_wp2_with fail
      have hno := Lib.hid (fun h => sameV_mem (na := na) (nb := na) (Mb.ne_at (xs := xs) (ys := ys) (k := k) h))
      have hyes : Hid (Mb.at xs k = Mb.at ys k → ∀ j, j < k + 1 → Mb.at xs j = Mb.at ys j) := fun h j hj => by
        rcases (show j < k ∨ j = k by omega) with h3 | h3
        · exact A.out j h3
        · rw [h3]; exact h
      generalize Mb.at xs k = x at *
      generalize Mb.at ys k = y at *
      obtain ⟨xn, xb, xf⟩ := x
      obtain ⟨yn, yb, yf⟩ := y
      dsimp only at q0 q1 q2 r0 r1 r2
      by_cases e1 : xn = yn
      case neg =>
        have R := Lib.hid (hno.out (fun h => e1 (by injection h)))
        have e1' : (xn == yn) = false := by rw [beq_eq_false_iff_ne]; exact e1
        clear e1
        go_quiet (fail)
        go_wp2
        go_ret
        exact ⟨by rw [R.out]; rfl, (L.out.drewN _).below⟩
      case pos =>
      by_cases e2 : xb = yb
      case neg =>
        have R := Lib.hid (hno.out (fun h => e2 (by injection h)))
        have e2' : (xb == yb) = false := by rw [beq_eq_false_iff_ne]; exact e2
        subst e1
        clear e2
        go_quiet (fail)
        go_wp2
        go_ret
        exact ⟨by rw [R.out]; rfl, (L.out.drewN _).below⟩
      case pos =>
      subst e1 e2
      by_cases e3 : xf = yf
      case neg =>
        have R := Lib.hid (hno.out (fun h => e3 (by injection h)))
        have e3' : (xf == yf) = false := by rw [beq_eq_false_iff_ne]; exact e3
        clear e3
        go_quiet (fail)
        go_wp2
        go_ret
        exact ⟨by rw [R.out]; rfl, (L.out.drewN _).below⟩
      case pos =>
        subst e3
        go_quiet (fail)
        go_wp2
        go_roundw
        case rel => exact ⟨k + 1, by omega, by go_num, hyes.out rfl, L.out.drewN _⟩
        case measure => simp [intOf]; omega
    · have hkn : k = n := by omega
      subst hkn
      have e : xs = ys := Mb.take_ext HN.out HN'.out A.out
      have R : Hid (sameV na na xs ys = true) := by rw [e]; exact sameV_eq _ _
      clear e
      go_wp2
      go_ret
      exact ⟨by rw [R.out]; rfl, L.out.below⟩
end Go.Proofs.Ythppeaelfcmafaa
