/- What a view's word says: a valid view is read back from its word. Plain law, own work. -/
import Derived.Test.YthppeaelfcmafaaP9
namespace Go.Proofs.Ythppeaelfcmafaa
set_option linter.unusedVariables false
theorem flatMap_cong {α β : Type} {l : List α} {f g : α → List β} (h : ∀ x ∈ l, f x = g x) : l.flatMap f = l.flatMap g := by
  rw [List.flatMap_def, List.flatMap_def, List.map_congr_left h]
/-- Seven bits of a word. -/
def fieldV (x : BitVec 64) (i : Nat) : BitVec 64 := (x >>> (7 * i)) &&& 127#64
def parseM (x : BitVec 64) (i : Nat) : List Mb := if fieldV x i &&& 1#64 = 1#64 then [⟨i, ((fieldV x i >>> 2).toNat : Int), decide (fieldV x i &&& 2#64 = 2#64)⟩] else []
def parseL (x : BitVec 64) (k : Nat) : List Mb := (List.range k).flatMap (parseM x)
theorem parseL_succ (x : BitVec 64) (k : Nat) : parseL x (k + 1) = parseL x k ++ parseM x k := by
  unfold parseL
  rw [List.range_succ, List.flatMap_append]
  simp
theorem parseM_len (x : BitVec 64) (i : Nat) : (parseM x i).length ≤ 1 := by unfold parseM; split <;> simp
theorem parseL_len (x : BitVec 64) (k : Nat) : (parseL x k).length ≤ k := by
  induction k with
  | zero => simp [parseL]
  | succ k ih => rw [parseL_succ, List.length_append]; have := parseM_len x k; omega
/-- The members ascend from lo on and are in range. -/
def Asc (lo : Int) : List Mb → Prop
  | [] => True
  | m :: ms => lo ≤ m.n ∧ m.n < 5 ∧ 1 ≤ m.b ∧ m.b ≤ 31 ∧ Asc (m.n + 1) ms
theorem asc_of (ms : List Mb) : ∀ (lo : Int), (∀ k, k < ms.length → AscM 5 ms k) → (∀ k, k < ms.length → BootM ms k) → (0 < ms.length → lo ≤ (Mb.at ms 0).n) → Asc lo ms := by
  induction ms with
  | nil => intro lo _ _ _; trivial
  | cons m ms ih =>
    intro lo h1 h2 h3
    have a0 := h1 0 (by simp)
    have b0 := h2 0 (by simp)
    have l0 := h3 (by simp)
    unfold AscM at a0
    unfold BootM at b0
    have e0 : Mb.at (m :: ms) 0 = m := rfl
    rw [e0] at a0 b0 l0
    refine ⟨l0, a0.2.1, b0.1, b0.2, ih _ (fun k hk => ?_) (fun k hk => ?_) (fun hp => ?_)⟩
    · have := h1 (k + 1) (by simpa using hk)
      unfold AscM at this ⊢
      have e1 : Mb.at (m :: ms) (k + 1) = Mb.at ms k := rfl
      rw [e1] at this
      refine ⟨this.1, this.2.1, fun hk0 => ?_⟩
      have e2 : Mb.at (m :: ms) (k + 1 - 1) = Mb.at ms (k - 1) := by
        obtain ⟨j, rfl⟩ : ∃ j, k = j + 1 := ⟨k - 1, by omega⟩
        rfl
      have := this.2.2 (by omega)
      rwa [e2] at this
    · exact h2 (k + 1) (by simpa using hk)
    · have := (h1 1 (by simpa using hp))
      unfold AscM at this
      have h4 := this.2.2 (by omega)
      have e1 : Mb.at (m :: ms) 1 = Mb.at ms 0 := rfl
      have e2 : Mb.at (m :: ms) (1 - 1) = m := rfl
      rw [e1, e2] at h4
      omega
theorem asc_find {lo : Int} {ms : List Mb} (h : Asc lo ms) {i : Int} (hi : i < lo) : ms.find? (fun m => m.n == i) = none := by
  induction ms generalizing lo with
  | nil => rfl
  | cons m ms ih =>
    obtain ⟨h1, h2, h3, h4, h5⟩ := h
    have e : (m.n == i) = false := by rw [beq_eq_false_iff_ne]; omega
    rw [List.find?_cons, e]
    exact ih h5 (by omega)
theorem bits_fin : ∀ (b : Fin 32) (f : Bool), (bitsM ⟨0, (b.val : Int), f⟩).toNat < 128 ∧ bitsM ⟨0, (b.val : Int), f⟩ &&& 1#64 = 1#64 ∧ (bitsM ⟨0, (b.val : Int), f⟩ >>> 2).toNat = b.val ∧ (decide (bitsM ⟨0, (b.val : Int), f⟩ &&& 2#64 = 2#64)) = f := by decide +kernel
theorem bits_all (m : Mb) (h1 : 1 ≤ m.b) (h2 : m.b ≤ 31) : (bitsM m).toNat < 128 ∧ bitsM m &&& 1#64 = 1#64 ∧ ((bitsM m >>> 2).toNat : Int) = m.b ∧ (decide (bitsM m &&& 2#64 = 2#64)) = m.f := by
  obtain ⟨n, b, f⟩ := m
  dsimp only at h1 h2 ⊢
  obtain ⟨k, rfl⟩ := Int.eq_ofNat_of_zero_le (show 0 ≤ b by omega)
  have hk : k < 32 := by omega
  have e : bitsM ⟨n, (k : Int), f⟩ = bitsM ⟨0, (k : Int), f⟩ := rfl
  have h := bits_fin ⟨k, hk⟩ f
  dsimp only at h
  rw [e]
  exact ⟨h.1, h.2.1, by rw [h.2.2.1], h.2.2.2⟩
theorem field_step (x y : BitVec 64) (n i : Nat) (hy : y.toNat < 128) (hn : n < 5) (hi : i < 5) : fieldV (x ||| y <<< (7 * n)) i = fieldV x i ||| (if n = i then y else 0#64) := by
  unfold fieldV
  apply BitVec.eq_of_getLsbD_eq
  intro j hj
  have hyb : ∀ k, 7 ≤ k → y.getLsbD k = false := fun k hk => by
    rw [BitVec.getLsbD, Nat.testBit_lt_two_pow]
    exact Nat.lt_of_lt_of_le hy (Nat.pow_le_pow_right (n := 2) (by omega) hk)
  have h127 : ∀ k, (127#64).getLsbD k = decide (k < 7) := fun k => by
    rw [BitVec.getLsbD]
    have : (127#64).toNat = 2 ^ 7 - 1 := rfl
    rw [this, Nat.testBit_two_pow_sub_one]
  simp only [BitVec.getLsbD_and, BitVec.getLsbD_or, BitVec.getLsbD_ushiftRight, BitVec.getLsbD_shiftLeft, h127]
  by_cases hj7 : j < 7
  · by_cases e : n = i
    · subst e
      have h1 : 7 * n + j < 64 := by omega
      have h2 : ¬ 7 * n + j < 7 * n := by omega
      have h3 : 7 * n + j - 7 * n = j := by omega
      simp [h1, h2, h3, hj7]
    · rcases Nat.lt_or_gt_of_ne e with g | g
      · rw [hyb (7 * i + j - 7 * n) (by omega)]
        simp [e, hj7]
      · have h2 : 7 * i + j < 7 * n := by omega
        simp [h2, e, hj7]
  · have := hyb j (by omega)
    by_cases e : n = i
    · simp [hj7, e, this]
    · simp [hj7, e]
theorem field_word (ms : List Mb) : ∀ (lo : Int) (z : BitVec 64) (i : Nat), 0 ≤ lo → Asc lo ms → i < 5 → fieldV (ms.foldl stepV z) i = fieldV z i ||| (match ms.find? (fun m => m.n == (i : Int)) with | some m => bitsM m | none => 0#64) := by
  induction ms with
  | nil => intro lo z i _ _ _; simp
  | cons m ms ih =>
    intro lo z i h0 h hi
    obtain ⟨h1, h2, h3, h4, h5⟩ := h
    have hb := bits_all m h3 h4
    rw [List.foldl_cons, ih (m.n + 1) _ i (by omega) h5 hi]
    have e : (7 * m.n).toNat = 7 * m.n.toNat := by omega
    have hs : fieldV (stepV z m) i = fieldV z i ||| (if m.n.toNat = i then bitsM m else 0#64) := by
      unfold stepV
      rw [e]
      exact field_step _ _ _ _ hb.1 (by omega) hi
    rw [hs, List.find?_cons]
    by_cases g : m.n = (i : Int)
    · have g1 : (m.n == (i : Int)) = true := by rw [beq_iff_eq]; exact g
      rw [g1, asc_find h5 (by omega : (i : Int) < m.n + 1), if_pos (by omega)]
      simp
    · have g1 : (m.n == (i : Int)) = false := by rw [beq_eq_false_iff_ne]; exact g
      rw [g1, if_neg (by omega)]
      simp
theorem field_zero : ∀ i : Fin 5, fieldV 549755813888#64 i.val = 0#64 := by decide
theorem find_range (ms : List Mb) : ∀ (k a : Nat), Asc a ms → a + k = 5 →
    (List.range' a k).flatMap (fun (i : Nat) => match ms.find? (fun m => m.n == (i : Int)) with | some m => [m] | none => []) = ms := by
  intro k
  induction k generalizing ms with
  | zero =>
    intro a h e
    cases ms with
    | nil => rfl
    | cons m ms => obtain ⟨h1, h2, _⟩ := h; omega
  | succ k ih =>
    intro a h e
    rw [List.range'_succ, List.flatMap_cons]
    cases ms with
    | nil => simp
    | cons m ms =>
      obtain ⟨h1, h2, h3, h4, h5⟩ := h
      by_cases g : m.n = (a : Int)
      · have g1 : (m.n == (a : Int)) = true := by rw [beq_iff_eq]; exact g
        rw [List.find?_cons, g1]
        have h5' : Asc ((a + 1 : Nat) : Int) ms := by rw [g] at h5; exact h5
        have := ih ms (a + 1) h5' (by omega)
        show [m] ++ _ = _
        rw [List.cons_append, List.nil_append]
        congr 1
        refine Eq.trans ?_ this
        refine flatMap_cong fun i hi => ?_
        have hi2 := List.mem_range'_1.1 hi
        have g2 : (m.n == (i : Int)) = false := by rw [beq_eq_false_iff_ne]; omega
        rw [List.find?_cons, g2]
      · have h6 : Asc ((a + 1 : Nat) : Int) (m :: ms) := ⟨by omega, h2, h3, h4, h5⟩
        rw [asc_find h6 (by omega)]
        exact ih (m :: ms) (a + 1) h6 (by omega)
theorem parse_word {ms : List Mb} (h1 : ∀ k, k < ms.length → AscM 5 ms k) (h2 : ∀ k, k < ms.length → BootM ms k) : parseL (wordV ms) 5 = ms := by
  have h : Asc 0 ms := asc_of ms 0 h1 h2 (fun hp => by have := h1 0 hp; unfold AscM at this; exact this.1)
  refine Eq.trans ?_ (find_range ms 5 0 h rfl)
  unfold parseL
  rw [List.range_eq_range']
  refine flatMap_cong fun i hi => ?_
  have hi2 := List.mem_range'_1.1 hi
  have hf := field_word ms 0 549755813888#64 i (by omega) h (by omega)
  rw [field_zero ⟨i, by omega⟩] at hf
  unfold parseM wordV
  rw [hf]
  cases hfi : ms.find? (fun m => m.n == (i : Int)) with
  | none => simp
  | some m =>
    have hm : m.n = (i : Int) := by have := List.find?_some hfi; simpa using this
    obtain ⟨j, hj, rfl⟩ := List.mem_iff_getElem.1 (List.mem_of_find?_eq_some hfi)
    rw [Mb.at_eq _ _ hj] at hm ⊢
    have hB := h2 j hj
    unfold BootM at hB
    have hb := bits_all _ hB.1 hB.2
    have e0 : 0#64 ||| bitsM (Mb.at ms j) = bitsM (Mb.at ms j) := by simp
    simp only [e0]
    rw [if_pos hb.2.1, hb.2.2.1, hb.2.2.2, ← hm]
theorem word_inj {xs ys : List Mb} (h1 : ∀ k, k < xs.length → AscM 5 xs k) (h2 : ∀ k, k < xs.length → BootM xs k) (h3 : ∀ k, k < ys.length → AscM 5 ys k) (h4 : ∀ k, k < ys.length → BootM ys k) (h : wordV xs = wordV ys) : xs = ys := by
  rw [← parse_word h1 h2, ← parse_word h3 h4, h]
theorem word_lt {ms : List Mb} (h1 : ∀ k, k < ms.length → AscM 5 ms k) (h2 : ∀ k, k < ms.length → BootM ms k) : wordV ms < 1099511627776#64 := by
  have h : Asc 0 ms := asc_of ms 0 h1 h2 (fun hp => by have := h1 0 hp; unfold AscM at this; exact this.1)
  have key : ∀ (ms : List Mb) (lo : Int) (z : BitVec 64), 0 ≤ lo → Asc lo ms → z.toNat < 2 ^ 40 → (ms.foldl stepV z).toNat < 2 ^ 40 := by
    intro ms
    induction ms with
    | nil => intro lo z _ _ hz; exact hz
    | cons m ms ih =>
      intro lo z h0 h hz
      obtain ⟨h1, h2, h3, h4, h5⟩ := h
      rw [List.foldl_cons]
      refine ih (m.n + 1) _ (by omega) h5 ?_
      unfold stepV
      rw [BitVec.toNat_or]
      refine Nat.or_lt_two_pow hz ?_
      have hb := (bits_all m h3 h4).1
      rw [BitVec.toNat_shiftLeft, Nat.shiftLeft_eq]
      refine Nat.lt_of_le_of_lt (Nat.mod_le _ _) ?_
      have h6 : 2 ^ (7 * m.n).toNat ≤ 2 ^ 28 := Nat.pow_le_pow_right (by omega) (by omega)
      have h7 : (bitsM m).toNat * 2 ^ (7 * m.n).toNat ≤ 127 * 2 ^ 28 := Nat.mul_le_mul (by omega) h6
      omega
  have := key ms 0 549755813888#64 (by omega) h (by decide)
  rw [BitVec.lt_def]
  exact this
end Go.Proofs.Ythppeaelfcmafaa
