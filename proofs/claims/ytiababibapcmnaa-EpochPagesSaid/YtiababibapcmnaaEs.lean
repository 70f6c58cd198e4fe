/- The walk of bodegaheap.SamePages. Own work. -/
import Derived.Test.YtiababibapcmnaaEq
import Derived.Deep.QuietTactic
import Derived.BigQuiet
namespace Go.Proofs.Ytiababibapcmnaa
open Go.RowKit
set_option linter.unusedVariables false
theorem Pg.ext_iff' (p q : Pg) : p = q ↔ (p.l = q.l ∧ p.h = q.h ∧ (p.d0 == q.d0 && (p.d1 == q.d1 && (p.d2 == q.d2 && (p.d3 == q.d3 && (p.d4 == q.d4 && (p.d5 == q.d5 && p.d6 == q.d6)))))) = true) := by
  cases p; cases q; simp
theorem Below.drewN' {B : Nat} {a w : World} (h : Below B a w) (n : Nat) : Below B a (w.drewN n) := ⟨h.os, h.tape, h.output, h.size, h.block⟩
set_option maxRecDepth 100000 in
set_option maxHeartbeats 8000000 in
theorem SamePages_any (u v : Value) (ps qs : List Pg) (w : World) (hp : SlP w u ps) (hq : SlP w v qs) :
    Calls Try.prog 10 #[u, v] w fun e w' => e = .returned (.bool (decide (ps = qs))) ∧ Below w.heap.size w w' := by
  obtain ⟨a, c, rfl⟩ := hp.form
  obtain ⟨a', c', rfl⟩ := hq.form
  obtain ⟨n, hn⟩ : ∃ n, n = ps.length := ⟨_, rfl⟩
  obtain ⟨n', hn'⟩ : ∃ n', n' = qs.length := ⟨_, rfl⟩
  rw [← hn] at hp ⊢
  rw [← hn'] at hq ⊢
  have HP := Lib.hid hp
  have HQ := Lib.hid hq
  have HN := Lib.hid hn
  have HN' := Lib.hid hn'
  clear hp hq hn hn'
  by_cases hl : n = n'
  case neg =>
    have h1 : ((n : Int) != (n' : Int)) = true := by rw [bne_iff_ne]; omega
    have R : Hid (decide (ps = qs) = false) := decide_eq_false (fun e => hl (by rw [HN.out, HN'.out, e]))
    clear hl
    go_enter Try.func10, Try.ntmps10
    go_wp2
    go_ret
    exact ⟨by rw [R.out]; rfl, Below.refl _ _⟩
  case pos =>
    subst hl
    have hnm : n ≤ 9223372036854775807 := by
      rcases HP.out.2 with ⟨a', c', e, e2⟩ | ⟨b, o, c', e, e2, e3, _⟩
      · have := HN.out; omega
      · have := HN.out; unfold maxLen at e3; omega
    go_enter Try.func10, Try.ntmps10
    go_wp2
    go_loopw [5] (fun i wr => ∃ k : Nat, k ≤ n ∧ i = .int .i64 k ∧ Hid (ps.take k = qs.take k) ∧ Below w.heap.size w wr) (fun i _ => n - (intOf i).toNat)
    case atStart => exact ⟨0, by omega, rfl, (by rw [List.take_zero, List.take_zero] : ps.take 0 = qs.take 0), Below.refl _ _⟩
    case round =>
      obtain ⟨k, hk, rfl, ht, hb⟩ := hrel
      by_cases hlt : k < n
      · obtain ⟨p, o, rfl, hp, hpc⟩ := HP.out.at_ (k := k) (by rw [← HN.out]; exact hlt)
        obtain ⟨q, o', rfl, hq, hqc⟩ := HQ.out.at_ (k := k) (by rw [← HN'.out]; exact hlt)
        have hpc := hpc.below hb hp
        have hqc := hqc.below hb hq
        have ex : Hid (ps[k]? = some (ps[k]'(by rw [← HN.out]; exact hlt))) := List.getElem?_eq_getElem _
        have ey : Hid (qs[k]? = some (qs[k]'(by rw [← HN'.out]; exact hlt))) := List.getElem?_eq_getElem _
        have hx := Lib.hid (Pg.ext_iff' (ps[k]'(by rw [← HN.out]; exact hlt)) (qs[k]'(by rw [← HN'.out]; exact hlt)))
        generalize ps[k]'(by rw [← HN.out]; exact hlt) = x at *
        generalize qs[k]'(by rw [← HN'.out]; exact hlt) = y at *
        unfold PgAt at hpc hqc
        obtain ⟨p0, p1, p2, p3, p4, p5, p6, p7, p8⟩ := hpc
        obtain ⟨q0, q1, q2, q3, q4, q5, q6, q7, q8⟩ := hqc
        have hltI : (k : Int) < n := by omega
        go_wp2_with fail
        have hno : ¬ x = y → decide (ps = qs) = false := fun h => decide_eq_false (fun e => h (by have h1 := ex.out; have h2 := ey.out; rw [e, h2] at h1; injection h1 with h1; exact h1.symm))
        have Hno := Lib.hid hno
        clear hno
        rcases Bool.eq_false_or_eq_true (x.l != y.l) with b1 | b1
        · have R := Lib.hid (Hno.out (fun e => by rw [e] at b1; simp at b1))
          go_quiet (fail)
          go_wp2
          go_ret
          exact ⟨by rw [R.out]; rfl, Below.drewN' hb _⟩
        rcases Bool.eq_false_or_eq_true (x.h != y.h) with b2 | b2
        · have R := Lib.hid (Hno.out (fun e => by rw [e] at b2; simp at b2))
          go_quiet (fail)
          go_wp2
          go_ret
          exact ⟨by rw [R.out]; rfl, Below.drewN' hb _⟩
        rcases Bool.eq_false_or_eq_true (x.d0 == y.d0 && (x.d1 == y.d1 && (x.d2 == y.d2 && (x.d3 == y.d3 && (x.d4 == y.d4 && (x.d5 == y.d5 && x.d6 == y.d6)))))) with b3 | b3
        · have exy : Hid (x = y) := hx.out.2 ⟨by simpa using b1, by simpa using b2, b3⟩
          go_quiet (fail)
          go_wp2
          go_roundw
          case rel =>
            refine ⟨k + 1, by omega, by go_num, ?_, Below.drewN' hb _⟩
            show ps.take (k + 1) = qs.take (k + 1)
            rw [List.take_add_one, List.take_add_one, ht.out, ex.out, ey.out, exy.out]
          case measure => simp [intOf]; omega
        · have R := Lib.hid (Hno.out (fun e => by have := (hx.out.1 e).2.2; rw [b3] at this; simp at this))
          go_quiet (fail)
          go_wp2
          go_ret
          exact ⟨by rw [R.out]; rfl, Below.drewN' hb _⟩
      · have hkn : k = n := by omega
        subst hkn
        have R : Hid (decide (ps = qs) = true) := decide_eq_true (by
          have h1 := ht.out
          rw [HN.out, List.take_length, ← HN.out, HN'.out, List.take_length] at h1
          exact h1)
        go_wp2
        go_ret
        exact ⟨by rw [R.out]; rfl, hb⟩
end Go.Proofs.Ytiababibapcmnaa
