/- Texts of this claim, laid together (part 7): walks of functions, what they compute, and plain laws of it. Own work. -/
import Derived.Test.YtpfojangcgffkaaM6SegmentWhole
/- Plain laws: bits; the pages that are free; what is taken where nothing is in the way. Own work. -/
namespace Go.Proofs.Ytpfojangcgffkaa
open Go.RowKit
set_option linter.unusedVariables false
set_option linter.unusedSimpArgs false
set_option maxRecDepth 100000
theorem bit_num (u : BitVec 32) (i : Nat) : bitB u i = decide (UV u / 2 ^ i % 2 = 1) := by
  unfold bitB
  rw [UV_low 32 1 (u >>> i) _ rfl, UV_shr]
  rfl
theorem bit_lsb (u : BitVec 32) (i : Nat) : bitB u i = u.getLsbD i := by
  rw [bit_num, BitVec.getLsbD, Nat.testBit_eq_decide_div_mod_eq]
  unfold UV
  have e : ((u.toNat : Int) / 2 ^ i % 2 = 1) ↔ (u.toNat / 2 ^ i % 2 = 1) := by
    rw [show ((u.toNat : Int) / 2 ^ i % 2) = ((u.toNat / 2 ^ i % 2 : Nat) : Int) by push_cast; rfl]
    omega
  simp only [e]
theorem one_lsb (j i : Nat) (hj : j < 32) : (BitVec.ofInt 32 1 <<< j).getLsbD i = decide (i = j) := by
  rw [show BitVec.ofInt 32 1 = 1#32 from rfl, BitVec.getLsbD_shiftLeft]
  by_cases h : i = j
  · subst h; simp [hj]
  · simp only [h, decide_false]
    by_cases h1 : i < j
    · simp [h1]
    · have : i - j ≠ 0 := by omega
      rw [BitVec.getLsbD_one]
      simp [this]
theorem bit_or (u : BitVec 32) (j i : Nat) (hj : j < 32) : bitB (u ||| BitVec.ofInt 32 1 <<< j) i = (bitB u i || decide (i = j)) := by
  rw [bit_lsb, bit_lsb, BitVec.getLsbD_or, one_lsb j i hj]
theorem bit_clear (u : BitVec 32) (j i : Nat) (hj : j < 32) (hi : i < 32) : bitB (u &&& ~~~(BitVec.ofInt 32 1 <<< j)) i = (bitB u i && !decide (i = j)) := by
  rw [bit_lsb, bit_lsb, BitVec.getLsbD_and, BitVec.getLsbD_not, one_lsb j i hj]
  simp [hi]
theorem bit_orb (i : Nat) : ∀ (q : List Nat) (u : BitVec 32), (∀ j, j ∈ q → j < 32) → bitB (orb u q) i = (bitB u i || decide (i ∈ q))
  | [], u, _ => by simp [orb]
  | j :: q, u, h => by
    have e : orb u (j :: q) = orb (u ||| BitVec.ofInt 32 1 <<< j) q := rfl
    rw [e, bit_orb i q _ fun x hx => h x (List.mem_cons_of_mem _ hx), bit_or u j i (h j (List.mem_cons_self ..))]
    by_cases h1 : i = j <;> simp [h1]
/-- A header's bits: those of a segment's pages alone. -/
def usable (u : BitVec 32) : Prop := ∀ i, bitB u i = true → 1 ≤ i ∧ i ≤ 15
theorem usable_iff (u : BitVec 32) : usable u ↔ UV (u &&& ~~~BitVec.ofInt 32 65534) = 0 := by
  rw [uv0_iff]
  constructor
  · intro h
    apply BitVec.eq_of_getLsbD_eq
    intro i hi
    rw [BitVec.getLsbD_and, BitVec.getLsbD_not]
    simp only [hi, decide_true, Bool.true_and]
    cases hb : u.getLsbD i with
    | false => simp
    | true =>
      have h1 := h i (by rw [bit_lsb]; exact hb)
      have h2 : (BitVec.ofInt 32 65534).getLsbD i = true := by
        have : ∀ k : Fin 16, 1 ≤ k.val → (BitVec.ofInt 32 65534).getLsbD k.val = true := by decide +kernel
        exact this ⟨i, by omega⟩ h1.1
      rw [h2]; simp
  · intro h i hb
    rw [bit_lsb] at hb
    have hi : i < 32 := BitVec.lt_of_getLsbD hb
    have h1 := congrArg (fun x : BitVec 32 => x.getLsbD i) h
    simp only [BitVec.getLsbD_and, BitVec.getLsbD_not, hi, decide_true, Bool.true_and, hb] at h1
    have h2 : (BitVec.ofInt 32 65534).getLsbD i = true := by simpa using h1
    have h3 : ∀ k : Fin 32, (BitVec.ofInt 32 65534).getLsbD k.val = true → 1 ≤ k.val ∧ k.val ≤ 15 := by decide +kernel
    exact h3 ⟨i, hi⟩ h2
/-! ### The free pages of a segment -/
def frL (u : BitVec 32) : List Nat := (List.range' 1 15).filter fun i => !bitB u i
theorem mem_frL {u : BitVec 32} {i : Nat} : i ∈ frL u ↔ (1 ≤ i ∧ i ≤ 15) ∧ bitB u i = false := by
  unfold frL
  rw [List.mem_filter, List.mem_range']
  constructor
  · rintro ⟨⟨j, h1, h2⟩, h3⟩
    exact ⟨by omega, by simpa using h3⟩
  · rintro ⟨h1, h2⟩
    exact ⟨⟨i - 1, by omega, by omega⟩, by simp [h2]⟩
theorem frL_nodup (u : BitVec 32) : (frL u).Nodup := by
  unfold frL
  exact (List.nodup_range' (step := 1)).filter _
theorem pop8_bits : ∀ n : Fin 256, Lib.pop8 (n.val : Int) = ((n.val % 2 + n.val / 2 % 2 + n.val / 4 % 2 + n.val / 8 % 2 + n.val / 16 % 2 + n.val / 32 % 2 + n.val / 64 % 2 + n.val / 128 % 2 : Nat) : Int) := by decide +kernel
theorem pop8_sum {j : Int} (h0 : 0 ≤ j) (h1 : j ≤ 255) : Lib.pop8 j = j % 2 + j / 2 % 2 + j / 4 % 2 + j / 8 % 2 + j / 16 % 2 + j / 32 % 2 + j / 64 % 2 + j / 128 % 2 := by
  obtain ⟨n, rfl⟩ : ∃ n : Nat, j = n := ⟨j.toNat, by omega⟩
  have h : Lib.pop8 ((n : Nat) : Int) = _ := pop8_bits ⟨n, by omega⟩
  rw [h]
  push_cast
  rfl
theorem len_filter {α : Type} (p : α → Bool) : ∀ l : List α, ((l.filter p).length : Int) = (l.map fun x => if p x = true then (1 : Int) else 0).sum
  | [] => rfl
  | x :: l => by
    rw [List.filter_cons, List.map_cons, List.sum_cons, ← len_filter p l]
    by_cases h : p x = true
    · rw [if_pos h, if_pos h, List.length_cons]; omega
    · rw [if_neg h, if_neg h]; omega
theorem nb (x : Int) (i : Nat) : (if (!decide (x / 2 ^ i % 2 = 1)) = true then (1 : Int) else 0) = 1 - x / 2 ^ i % 2 := by
  have h : 0 ≤ x / 2 ^ i % 2 ∧ x / 2 ^ i % 2 < 2 := ⟨Int.emod_nonneg _ (by decide), Int.emod_lt_of_pos _ (by decide)⟩
  by_cases h1 : x / 2 ^ i % 2 = 1
  · simp [h1]
  · simp [h1]; omega
theorem bl1 (x : Int) : x / 2 ^ 1 % 2 = x % 256 / 2 % 2 := by omega
theorem bl2 (x : Int) : x / 2 ^ 2 % 2 = x % 256 / 4 % 2 := by omega
theorem bl3 (x : Int) : x / 2 ^ 3 % 2 = x % 256 / 8 % 2 := by omega
theorem bl4 (x : Int) : x / 2 ^ 4 % 2 = x % 256 / 16 % 2 := by omega
theorem bl5 (x : Int) : x / 2 ^ 5 % 2 = x % 256 / 32 % 2 := by omega
theorem bl6 (x : Int) : x / 2 ^ 6 % 2 = x % 256 / 64 % 2 := by omega
theorem bl7 (x : Int) : x / 2 ^ 7 % 2 = x % 256 / 128 % 2 := by omega
theorem bl8 (x : Int) : x / 2 ^ 8 % 2 = x / 256 % 2 := by omega
theorem bl9 (x : Int) : x / 2 ^ 9 % 2 = x / 256 / 2 % 2 := by omega
theorem bl10 (x : Int) : x / 2 ^ 10 % 2 = x / 256 / 4 % 2 := by omega
theorem bl11 (x : Int) : x / 2 ^ 11 % 2 = x / 256 / 8 % 2 := by omega
theorem bl12 (x : Int) : x / 2 ^ 12 % 2 = x / 256 / 16 % 2 := by omega
theorem bl13 (x : Int) : x / 2 ^ 13 % 2 = x / 256 / 32 % 2 := by omega
theorem bl14 (x : Int) : x / 2 ^ 14 % 2 = x / 256 / 64 % 2 := by omega
theorem bl15 (x : Int) : x / 2 ^ 15 % 2 = x / 256 / 128 % 2 := by omega
theorem frL_len {u : BitVec 32} (h : usable u) : ((frL u).length : Int) = 15 - popV u := by
  have hb : ∀ i, i < 32 → ¬ (1 ≤ i ∧ i ≤ 15) → UV u / 2 ^ i % 2 = 0 := fun i h32 hi => by
    have h1 : bitB u i = false := Bool.eq_false_iff.2 fun e => hi (h i e)
    rw [bit_num] at h1
    have h2 := of_decide_eq_false h1
    have h3 : 0 ≤ UV u / 2 ^ i % 2 ∧ UV u / 2 ^ i % 2 < 2 := ⟨Int.emod_nonneg _ (by decide), Int.emod_lt_of_pos _ (by decide)⟩
    omega
  have h0 := UV_nonneg u
  have hlt : UV u < 65536 := by
    have e := (usable_iff u).1 h
    have h16 : UV u / 65536 = 0 := by
      have e2 := (uv0_iff).1 e
      have e3 : u >>> 16 = 0#32 := by
        apply BitVec.eq_of_getLsbD_eq
        intro i hi
        rw [BitVec.getLsbD_ushiftRight]
        cases hb2 : u.getLsbD (16 + i) with
        | false => simp
        | true => have := h (16 + i) (by rw [bit_lsb]; exact hb2); omega
      have e4 := UV_shr 32 u 16
      rw [e3] at e4
      have e5 : UV (0#32) = 0 := rfl
      rw [e5] at e4
      exact e4.symm
    omega
  have b0 := hb 0 (by decide) (by decide)
  unfold frL
  rw [len_filter]
  simp only [bit_num, nb]
  unfold popV
  have w1 : UV (u >>> 24) = 0 := by rw [UV_shr]; omega
  have w2 : UV (u >>> 16 &&& BitVec.ofInt 32 255) = 0 := by rw [UV_low 32 8 _ _ rfl, UV_shr]; omega
  have w3 : UV (u >>> 8 &&& BitVec.ofInt 32 255) = UV u / 256 := by rw [UV_low 32 8 _ _ rfl, UV_shr]; omega
  have w4 : UV (u &&& BitVec.ofInt 32 255) = UV u % 256 := by rw [UV_low 32 8 _ _ rfl]; omega
  rw [w1, w2, w3, w4, pop8_sum (j := UV u / 256) (by omega) (by omega), pop8_sum (j := UV u % 256) (by omega) (by omega), pop8_sum (j := 0) (by decide) (by decide)]
  have hr : List.range' 1 15 = [1, 2, 3, 4, 5, 6, 7, 8, 9, 10, 11, 12, 13, 14, 15] := by decide
  rw [hr]
  have b1 : UV u % 256 % 2 = 0 := by clear hb h w1 w2 w3 w4 hr hlt h0; omega
  rw [b1]
  clear b0 b1 w1 w2 w3 w4 hb h
  generalize UV u = x at *
  have e1 := bl1 x
  have e2 := bl2 x
  have e3 := bl3 x
  have e4 := bl4 x
  have e5 := bl5 x
  have e6 := bl6 x
  have e7 := bl7 x
  have e8 := bl8 x
  have e9 := bl9 x
  have e10 := bl10 x
  have e11 := bl11 x
  have e12 := bl12 x
  have e13 := bl13 x
  have e14 := bl14 x
  have e15 := bl15 x
  simp only [List.map_cons, List.map_nil, List.sum_cons, List.sum_nil]
  rw [e1, e2, e3, e4, e5, e6, e7, e8, e9, e10, e11, e12, e13, e14, e15]
  clear e1 e2 e3 e4 e5 e6 e7 e8 e9 e10 e11 e12 e13 e14 e15 h0 hlt
  generalize x % 256 / 2 % 2 = a1
  generalize x % 256 / 4 % 2 = a2
  generalize x % 256 / 8 % 2 = a3
  generalize x % 256 / 16 % 2 = a4
  generalize x % 256 / 32 % 2 = a5
  generalize x % 256 / 64 % 2 = a6
  generalize x % 256 / 128 % 2 = a7
  generalize x / 256 / 128 % 2 = b15
  generalize x / 256 / 64 % 2 = b14
  generalize x / 256 / 32 % 2 = b13
  generalize x / 256 / 16 % 2 = b12
  generalize x / 256 / 8 % 2 = b11
  generalize x / 256 / 4 % 2 = b10
  generalize x / 256 / 2 % 2 = b9
  generalize x / 256 % 2 = b8
  omega
/-! ### What is taken -/
theorem filter_range_cons (p : Nat → Bool) (i f : Nat) : (List.range' i (f + 1)).filter p = if p i = true then i :: (List.range' (i + 1) f).filter p else (List.range' (i + 1) f).filter p := by
  rw [List.range'_succ, List.filter_cons]
theorem inn_all {ks : List Pg} {s : Int} {cnt : Nat} {u : BitVec 32} (hp : ∀ i : Nat, 1 ≤ i → i ≤ 15 → bitB u i = false → pkV ks (lineV s + i) = 0) :
    ∀ (f i ch : Nat) (q : List Nat), i + f = 16 → 1 ≤ i → (∀ j, j ∈ q → j < i) → inn ks s cnt f i ch (orb u q) q = .ok (q ++ (((List.range' i f).filter fun i => !bitB u i).take (cnt - ch)))
  | 0, i, ch, q, _, _, _ => by simp [inn]
  | f + 1, i, ch, q, he, h1, hq => by
    have hbit : bitB (orb u q) i = bitB u i := by
      rw [bit_orb i q u fun j hj => by have := hq j hj; omega]
      have : ¬ i ∈ q := fun hm => absurd (hq i hm) (by omega)
      simp [this]
    unfold inn
    rw [filter_range_cons, hbit]
    by_cases hc : ch < cnt
    · rw [if_pos hc]
      cases hb : bitB u i with
      | true =>
        simp only [if_true, Bool.not_true, Bool.false_eq_true, if_false]
        exact inn_all hp f (i + 1) ch q (by omega) (by omega) fun j hj => by have := hq j hj; omega
      | false =>
        have hpk := hp i h1 (by omega) hb
        simp only [Bool.false_eq_true, if_false, Bool.not_false, if_true, hpk]
        rw [if_neg (by decide), ← orb_snoc, inn_all hp f (i + 1) (ch + 1) (q ++ [i]) (by omega) (by omega) fun j hj => by
          rcases List.mem_append.1 hj with hj | hj
          · have := hq j hj; omega
          · have := List.mem_singleton.1 hj; omega]
        obtain ⟨m, hm⟩ : ∃ m, cnt - ch = m + 1 := ⟨cnt - ch - 1, by omega⟩
        rw [hm, show cnt - (ch + 1) = m by omega, List.take_succ_cons]
        simp
    · rw [if_neg hc, show cnt - ch = 0 by omega, List.take_zero, List.append_nil]
theorem inn_free {ks : List Pg} {s : Int} {cnt ch : Nat} {u : BitVec 32} (hp : ∀ i : Nat, 1 ≤ i → i ≤ 15 → bitB u i = false → pkV ks (lineV s + i) = 0) : inn ks s cnt 15 1 ch u [] = .ok ((frL u).take (cnt - ch)) :=
  inn_all hp 15 1 ch [] rfl (Nat.le_refl _) (fun j hj => by cases hj)
def frS (ks : List Pg) (T : List Int) : Nat := (T.map fun s => (frL (hdS' ks s).used).length).sum
theorem frS_cons (ks : List Pg) (s : Int) (T : List Int) : frS ks (s :: T) = (frL (hdS' ks s).used).length + frS ks T := by unfold frS; simp
theorem frS_mem {ks : List Pg} {s : Int} : ∀ {T : List Int}, s ∈ T → (frL (hdS' ks s).used).length ≤ frS ks T
  | t :: T, h => by
    rw [frS_cons]
    rcases List.mem_cons.1 h with h | h
    · subst h; omega
    · have := frS_mem (ks := ks) h; omega
def Free (ks : List Pg) (s : Int) : Prop := ∀ i : Nat, 1 ≤ i → i ≤ 15 → bitB (hdS' ks s).used i = false → latB ks (lineV s + i) = true ∧ pkV ks (lineV s + i) = 0
theorem outS_all {ks : List Pg} {cnt : Nat} : ∀ (T : List Int) (ch : Nat) (ps : Pk), (∀ s, s ∈ T → Free ks s) → ch ≤ cnt →
    ∃ rs : Pk, outS ks cnt T ch ps = .ok (ps ++ rs) ∧ rs.map Prod.fst = T ∧ (∀ x, x ∈ rs → ∃ m, x.2 = (frL (hdS' ks x.1).used).take m) ∧ ch + totP rs = min cnt (ch + frS ks T)
  | [], ch, ps, _, hc => ⟨[], by simp [outS], rfl, (fun x hx => by cases hx), by simp [totP, frS]; omega⟩
  | s :: T, ch, ps, hF, hc => by
    have hin := inn_free (ks := ks) (s := s) (cnt := cnt) (ch := ch) fun i h1 h2 h3 => (hF s (List.mem_cons_self ..) i h1 h2 h3).2
    have hl : ((frL (hdS' ks s).used).take (cnt - ch)).length = min (cnt - ch) (frL (hdS' ks s).used).length := List.length_take
    have hle : ch + ((frL (hdS' ks s).used).take (cnt - ch)).length ≤ cnt := by omega
    obtain ⟨rs, e1, e2, e3, e4⟩ := outS_all T (ch + ((frL (hdS' ks s).used).take (cnt - ch)).length) (ps ++ [(s, (frL (hdS' ks s).used).take (cnt - ch))]) (fun t ht => hF t (List.mem_cons_of_mem _ ht)) hle
    refine ⟨(s, (frL (hdS' ks s).used).take (cnt - ch)) :: rs, ?_, by simp [e2], fun x hx => ?_, ?_⟩
    · conv => lhs; unfold outS
      rw [hin]
      simp only
      rw [e1, List.append_assoc]
      rfl
    · rcases List.mem_cons.1 hx with hx | hx
      · subst hx; exact ⟨_, rfl⟩
      · exact e3 x hx
    · rw [frS_cons]
      have : totP ((s, (frL (hdS' ks s).used).take (cnt - ch)) :: rs) = ((frL (hdS' ks s).used).take (cnt - ch)).length + totP rs := by unfold totP; simp
      rw [this]
      omega
/-- Pages are allocated where nothing is in the way. -/
theorem alo_all {ks : List Pg} {cl : Int} {cnt : Nat} {S : List Int} (hn : S.Nodup) (hH : ∀ s, s ∈ S → (headV ks s).2.2.2 = 0 ∧ (hdS' ks s).owner = cl ∧ usable (hdS' ks s).used) (hF : ∀ s, s ∈ S → Free ks s) :
    (frS ks S < cnt ∧ aloH ks cl cnt S S = errA 12) ∨ (cnt ≤ frS ks S ∧ ∃ rs : Pk, (rs.map Prod.fst).Nodup ∧ (∀ x, x ∈ rs → x.1 ∈ S ∧ ∃ m, x.2 = (frL (hdS' ks x.1).used).take m) ∧ totP rs = cnt ∧ aloH ks cl cnt S S = ([], freP ks rs, wriP ks rs, 0, true)) := by
  have hE : ∀ T : List Int, (∀ s, s ∈ T → s ∈ S) → hdE ks cl T = none := fun T => by
    induction T with
    | nil => intro _; rfl
    | cons s T ih =>
      intro h
      obtain ⟨h1, h2, _⟩ := hH s (h s (List.mem_cons_self ..))
      unfold hdE
      rw [if_neg (by rw [h1]; simp), if_neg (by rw [h2]; simp)]
      exact ih fun t ht => h t (List.mem_cons_of_mem _ ht)
  have hvac : ∀ s, s ∈ S → vacV (hdS' ks s) = ((frL (hdS' ks s).used).length : Int) := fun s hs => (frL_len (hH s hs).2.2).symm
  have hal : aloH ks cl cnt S S = excA ks cnt (outS ks cnt (srcV ks cnt S) 0 []) := by
    unfold aloH
    rw [hE S fun _ h => h]
  obtain ⟨hsn, hss⟩ := src_sub (ks := ks) (cnt := cnt) hn
  obtain ⟨rs, e1, e2, e3, e4⟩ := outS_all (ks := ks) (cnt := cnt) (srcV ks cnt S) 0 [] (fun s hs => hF s (hss s hs)) (Nat.zero_le _)
  rw [List.nil_append] at e1
  rw [e1] at hal
  have hrs : ∀ x, x ∈ rs → x.1 ∈ S := fun x hx => hss _ (by rw [← e2]; exact List.mem_map.2 ⟨x, hx, rfl⟩)
  have hneed : needP ks rs = [] := by
    unfold needP
    rw [List.filter_eq_nil_iff]
    intro l hl
    unfold linP at hl
    obtain ⟨x, hx, hl⟩ := List.mem_flatMap.1 hl
    obtain ⟨i, hi, rfl⟩ := List.mem_map.1 hl
    obtain ⟨m, hm⟩ := e3 x hx
    rw [hm] at hi
    obtain ⟨h1, h2⟩ := mem_frL.1 (List.mem_of_mem_take hi)
    rw [(hF _ (hrs x hx) i h1.1 h1.2 h2).1]
    simp
  have hfin : ¬ totP rs < cnt → aloH ks cl cnt S S = ([], freP ks rs, wriP ks rs, 0, true) := fun h => by
    rw [hal]
    show finA ks cnt rs = _
    unfold finA
    rw [if_neg h, hneed, if_neg (by simp)]
  have hfull : totP rs < cnt → aloH ks cl cnt S S = errA 12 := fun h => by
    rw [hal]
    show finA ks cnt rs = _
    unfold finA
    rw [if_pos h]
  have hle : frS ks (srcV ks cnt S) ≤ frS ks S ∧ (frS ks S < cnt → frS ks (srcV ks cnt S) < cnt) ∧ (cnt ≤ frS ks S → cnt ≤ frS ks (srcV ks cnt S)) := by
    unfold srcV
    split
    · rename_i s hs
      have hm := List.mem_of_find?_eq_some hs
      have hv := List.find?_some hs
      have hv2 : vacV (hdS' ks s) ≥ (cnt : Int) := by simpa using hv
      rw [hvac s hm] at hv2
      have h1 := frS_mem (ks := ks) hm
      have h2 : frS ks [s] = (frL (hdS' ks s).used).length := by rw [frS_cons]; simp [frS]
      rw [h2]
      exact ⟨h1, fun h => by omega, fun h => by omega⟩
    · exact ⟨Nat.le_refl _, fun h => h, fun h => h⟩
  rcases Nat.lt_or_ge (frS ks S) cnt with h | h
  · exact .inl ⟨h, hfull (by have := hle.2.1 h; omega)⟩
  · refine .inr ⟨h, rs, by rw [e2]; exact hsn, fun x hx => ⟨hrs x hx, e3 x hx⟩, ?_, hfin ?_⟩
    · have := hle.2.2 h; omega
    · have := hle.2.2 h; omega
end Go.Proofs.Ytpfojangcgffkaa

/- Plain laws: a heap of which all pages are known; what stays true when pages are committed. Own work. -/
namespace Go.Proofs.Ytpfojangcgffkaa
open Go.RowKit
set_option linter.unusedVariables false
set_option linter.unusedSimpArgs false
set_option maxRecDepth 100000
def ndB (b : BitVec 32) (inc : Int) : Nd := ⟨false, 0#32, b, inc, Re.nil, Re.nil, Re.nil, Re.nil⟩
/-- What is said of a heap of n segments: B has the bitmaps of the compute nodes, A the owners and the bits of the segments, D the pages that are taken and not yet written. -/
structure Inv (n : Nat) (G : Int) (B : Nat → BitVec 32) (A : Nat → Int × BitVec 32) (D : List (Nat × Nat)) (H : List Pg) : Prop where
  len : H.length = 8 + 16 * n
  ln : ∀ (k : Nat) p, H[k]? = some p → p.l = 96 + (k : Int)
  un : ∀ (k : Nat) p, H[k]? = some p → lockB p = false
  nd : ∀ (c : Nat) p, c < 6 → H[2 + c]? = some p → ∃ inc, (0 ≤ inc ∧ inc ≤ 59) ∧ readN p = (ndB (B c) inc, 0)
  hd : ∀ (s : Nat) p, s < n → H[8 + 16 * s]? = some p → readH p = (⟨(A s).1, (A s).2⟩, 0)
  dp : ∀ (s i : Nat) p, s < n → 1 ≤ i → i ≤ 15 → H[8 + 16 * s + i]? = some p → (kindV p.d0 = 0 ↔ (bitB (A s).2 i = false ∨ (s, i) ∈ D)) ∧ genV p.d0 ≤ G
theorem com_set {H : List Pg} {w : Pg} {k : Nat} (hk : k < H.length) (hl : w.l = 96 + (k : Int)) : comP H w = H.set k { w with h := nextH (H.getD k Pg.nil).h } := by
  unfold comP
  rw [if_pos (by omega), show (w.l - 96).toNat = k by omega]
theorem nextH_un (w : Pg) (x : BitVec 64) : lockB { w with h := nextH x } = false := by
  unfold lockB
  have e : UV (nextH x &&& 255#64) = 0 := by
    rw [UV_low 64 8 _ _ rfl, ← nextH_eq, wrap_u64_mod]
    omega
  show (UV (nextH x &&& 255#64) != 0) = false
  rw [e]; rfl
theorem set_get {H : List Pg} {k j : Nat} {w p : Pg} (h : (H.set k w)[j]? = some p) : (j = k ∧ p = w) ∨ (j ≠ k ∧ H[j]? = some p) := by
  rw [List.getElem?_set] at h
  by_cases e : k = j
  · rw [if_pos e] at h
    split at h
    · exact .inl ⟨e.symm, (Option.some.inj h).symm⟩
    · cases h
  · rw [if_neg e] at h
    exact .inr ⟨fun e2 => e e2.symm, h⟩
section
variable {n : Nat} {G : Int} {B : Nat → BitVec 32} {A : Nat → Int × BitVec 32} {D : List (Nat × Nat)} {H : List Pg}
theorem Inv.at_ (h : Inv n G B A D H) {k : Nat} (hk : k < 8 + 16 * n) : ∃ p, H[k]? = some p := ⟨H[k]'(by rw [h.len]; exact hk), List.getElem?_eq_getElem _⟩
theorem Inv.lat (h : Inv n G B A D H) {k : Nat} {p : Pg} (hk : H[k]? = some p) : latO H (96 + (k : Int)) = some p :=
  lat_hit hk (h.ln k p hk) fun j q hj hq => by rw [h.ln j q hq]; omega
theorem Inv.lat2 (h : Inv n G B A D H) {k : Nat} {p : Pg} (hk : H[k]? = some p) : latP H (96 + (k : Int)) = p ∧ latB H (96 + (k : Int)) = true := by
  unfold latP latB
  rw [h.lat hk]
  exact ⟨rfl, rfl⟩
theorem Inv.miss (h : Inv n G B A D H) {ls : List Int} (hl : ∀ l, l ∈ ls → ∃ k : Nat, k < 8 + 16 * n ∧ l = 96 + (k : Int)) : missV H ls = [] := by
  unfold missV
  rw [List.filter_eq_nil_iff]
  intro l hm
  obtain ⟨k, hk, rfl⟩ := hl l hm
  obtain ⟨p, hp⟩ := h.at_ hk
  rw [h.lat hp]
  simp
theorem Inv.node (h : Inv n G B A D H) {c : Nat} (hc : c < 6) : ∃ p inc, H[2 + c]? = some p ∧ (0 ≤ inc ∧ inc ≤ 59) ∧ nodeV H c = (p, ndB (B c) inc, true, 0) := by
  obtain ⟨p, hp⟩ := h.at_ (k := 2 + c) (by omega)
  obtain ⟨inc, hi, hr⟩ := h.nd c p hc hp
  refine ⟨p, inc, hp, hi, ?_⟩
  obtain ⟨e1, e2⟩ := h.lat2 hp
  have e0 : (96 + ((2 + c : Nat) : Int)) = 98 + (c : Int) := by omega
  rw [e0] at e1 e2
  have e3 := h.un _ p hp
  unfold nodeV
  rw [if_pos e2, e1, if_neg (by rw [e3]; simp), hr]
theorem line_seg {s : Nat} (hs : s ≤ 8) : lineV (s : Int) = 96 + ((8 + 16 * s : Nat) : Int) := by unfold lineV; rw [if_pos (by omega)]; omega
theorem Inv.head (h : Inv n G B A D H) {s : Nat} (hs : s < n) (hn : n ≤ 9) : ∃ p, H[8 + 16 * s]? = some p ∧ headV H s = (p, ⟨(A s).1, (A s).2⟩, true, 0) := by
  obtain ⟨p, hp⟩ := h.at_ (k := 8 + 16 * s) (by omega)
  refine ⟨p, hp, ?_⟩
  obtain ⟨e1, e2⟩ := h.lat2 hp
  rw [← line_seg (by omega)] at e1 e2
  unfold headV
  rw [if_pos e2, e1, if_neg (by rw [h.un _ p hp]; simp), h.hd s p hs hp]
theorem Inv.page (h : Inv n G B A D H) {s i : Nat} (hs : s < n) (hn : n ≤ 9) (hi : i ≤ 15) : ∃ p, H[8 + 16 * s + i]? = some p ∧ latP H (lineV s + i) = p ∧ latB H (lineV s + i) = true := by
  obtain ⟨p, hp⟩ := h.at_ (k := 8 + 16 * s + i) (by omega)
  obtain ⟨e1, e2⟩ := h.lat2 hp
  rw [show (96 + ((8 + 16 * s + i : Nat) : Int)) = lineV s + i by rw [line_seg (by omega)]; omega] at e1 e2
  exact ⟨p, hp, e1, e2⟩
/-! ### Commits -/
theorem Inv.com (h : Inv n G B A D H) {k : Nat} {w : Pg} (hk : k < 8 + 16 * n) (hl : w.l = 96 + (k : Int)) :
    ∃ w', comP H w = H.set k w' ∧ w'.l = w.l ∧ lockB w' = false ∧ readN w' = readN w ∧ readH w' = readH w ∧ w'.d0 = w.d0 :=
  ⟨_, com_set (by rw [h.len]; exact hk) hl, rfl, nextH_un _ _, rfl, rfl, rfl⟩
theorem Inv.comNode (h : Inv n G B A D H) {c : Nat} {w : Pg} {b : BitVec 32} {inc : Int} (hc : c < 6) (hl : w.l = 98 + (c : Int)) (hi : 0 ≤ inc ∧ inc ≤ 59) (hw : readN w = (ndB b inc, 0)) :
    Inv n G (fun x => if x = c then b else B x) A D (comP H w) := by
  obtain ⟨w', e, l1, l2, l3, l4, l5⟩ := h.com (k := 2 + c) (w := w) (by omega) (by omega)
  rw [e]
  refine ⟨by rw [List.length_set, h.len], fun k p hp => ?_, fun k p hp => ?_, fun d p hd hp => ?_, fun s p hs hp => ?_, fun s i p hs h1 h2 hp => ?_⟩
  · rcases set_get hp with ⟨rfl, rfl⟩ | ⟨_, hp⟩
    · rw [l1, hl]; omega
    · exact h.ln k p hp
  · rcases set_get hp with ⟨rfl, rfl⟩ | ⟨_, hp⟩
    · exact l2
    · exact h.un k p hp
  · rcases set_get hp with ⟨e1, rfl⟩ | ⟨e1, hp⟩
    · have : d = c := by omega
      subst this
      rw [if_pos rfl]
      exact ⟨inc, hi, l3.trans hw⟩
    · rw [if_neg (by omega)]
      exact h.nd d p hd hp
  · rcases set_get hp with ⟨e1, rfl⟩ | ⟨e1, hp⟩
    · omega
    · exact h.hd s p hs hp
  · rcases set_get hp with ⟨e1, rfl⟩ | ⟨e1, hp⟩
    · omega
    · exact h.dp s i p hs h1 h2 hp
theorem Inv.comHead (h : Inv n G B A D H) {s : Nat} {w : Pg} {o : Int} {u : BitVec 32} {D' : List (Nat × Nat)} (hs : s < n) (hl : w.l = 104 + 16 * (s : Int)) (hw : readH w = (⟨o, u⟩, 0))
    (hD : ∀ i, 1 ≤ i → i ≤ 15 → ((bitB (A s).2 i = false ∨ (s, i) ∈ D) ↔ (bitB u i = false ∨ (s, i) ∈ D'))) (hD2 : ∀ t i, t ≠ s → ((t, i) ∈ D ↔ (t, i) ∈ D')) :
    Inv n G B (fun x => if x = s then (o, u) else A x) D' (comP H w) := by
  obtain ⟨w', e, l1, l2, l3, l4, l5⟩ := h.com (k := 8 + 16 * s) (w := w) (by omega) (by omega)
  rw [e]
  refine ⟨by rw [List.length_set, h.len], fun k p hp => ?_, fun k p hp => ?_, fun d p hd hp => ?_, fun t p ht hp => ?_, fun t i p ht h1 h2 hp => ?_⟩
  · rcases set_get hp with ⟨rfl, rfl⟩ | ⟨_, hp⟩
    · rw [l1, hl]; omega
    · exact h.ln k p hp
  · rcases set_get hp with ⟨rfl, rfl⟩ | ⟨_, hp⟩
    · exact l2
    · exact h.un k p hp
  · rcases set_get hp with ⟨e1, rfl⟩ | ⟨e1, hp⟩
    · omega
    · exact h.nd d p hd hp
  · rcases set_get hp with ⟨e1, rfl⟩ | ⟨e1, hp⟩
    · have : t = s := by omega
      subst this
      rw [if_pos rfl]
      exact l4.trans hw
    · rw [if_neg (by omega)]
      exact h.hd t p ht hp
  · rcases set_get hp with ⟨e1, rfl⟩ | ⟨e1, hp⟩
    · omega
    · have h3 := h.dp t i p ht h1 h2 hp
      by_cases e2 : t = s
      · subst e2
        rw [if_pos rfl, ← hD i h1 h2]
        exact h3
      · rw [if_neg e2, ← hD2 t i e2]
        exact h3
theorem Inv.comPage (h : Inv n G B A D H) {s i : Nat} {w : Pg} {G' : Int} {D' : List (Nat × Nat)} (hs : s < n) (hi : 1 ≤ i ∧ i ≤ 15) (hl : w.l = 104 + 16 * (s : Int) + i) (hG : G ≤ G') (hg : genV w.d0 ≤ G')
    (hk : kindV w.d0 = 0 ↔ (bitB (A s).2 i = false ∨ (s, i) ∈ D')) (hD : ∀ t j, (t, j) ≠ (s, i) → ((t, j) ∈ D ↔ (t, j) ∈ D')) :
    Inv n G' B A D' (comP H w) := by
  obtain ⟨w', e, l1, l2, l3, l4, l5⟩ := h.com (k := 8 + 16 * s + i) (w := w) (by omega) (by omega)
  rw [e]
  refine ⟨by rw [List.length_set, h.len], fun k p hp => ?_, fun k p hp => ?_, fun d p hd hp => ?_, fun t p ht hp => ?_, fun t j p ht h1 h2 hp => ?_⟩
  · rcases set_get hp with ⟨rfl, rfl⟩ | ⟨_, hp⟩
    · rw [l1, hl]; omega
    · exact h.ln k p hp
  · rcases set_get hp with ⟨rfl, rfl⟩ | ⟨_, hp⟩
    · exact l2
    · exact h.un k p hp
  · rcases set_get hp with ⟨e1, rfl⟩ | ⟨e1, hp⟩
    · omega
    · exact h.nd d p hd hp
  · rcases set_get hp with ⟨e1, rfl⟩ | ⟨e1, hp⟩
    · omega
    · exact h.hd t p ht hp
  · rcases set_get hp with ⟨e1, rfl⟩ | ⟨e1, hp⟩
    · have e2 : t = s := by omega
      have e3 : j = i := by omega
      subst e2 e3
      rw [l5]
      exact ⟨hk, hg⟩
    · obtain ⟨h3, h4⟩ := h.dp t j p ht h1 h2 hp
      rw [← hD t j (fun e2 => by injection e2 with e2 e3; omega)]
      exact ⟨h3, by omega⟩
end
/-! ### Written pages are read -/
theorem sg_le {b : BitVec 32} (h : ∀ i, bitB b i = true → i < 9) : UV b ≤ 511 := by
  have e3 : b >>> 9 = 0#32 := by
    apply BitVec.eq_of_getLsbD_eq
    intro i hi
    rw [BitVec.getLsbD_ushiftRight]
    cases hb : b.getLsbD (9 + i) with
    | false => simp
    | true => have := h (9 + i) (by rw [bit_lsb]; exact hb); omega
  have e4 := UV_shr 32 b 9
  rw [e3] at e4
  have e5 : UV (0#32) = 0 := rfl
  rw [e5] at e4
  have := UV_nonneg b
  omega
theorem write_nd {p : Pg} {b : BitVec 32} {inc : Int} (hl : 98 ≤ p.l ∧ p.l < 104) (hb : ∀ i, bitB b i = true → i < 9) (hi : 0 ≤ inc ∧ inc ≤ 59) : (writeN p (ndB b inc)).2 = 0 := by
  have h := sg_le hb
  have e : badW p (ndB b inc) = false := by
    unfold badW ownB ndB
    simp
    refine ⟨by omega, ?_⟩
    refine ⟨?_, by omega, by omega, by omega⟩
    rfl
  rw [writeN_0 e rfl]
theorem write_hd {p : Pg} {o : Int} {u : BitVec 32} (hl : hdrB p.l = true) (ho : -1 ≤ o ∧ o < 6) (hu : usable u) : (writeH p ⟨o, u⟩).2 = 0 := by
  have e : hdBad p ⟨o, u⟩ = false := by
    unfold hdBad
    rw [hl, (usable_iff u).1 hu]
    simp
    omega
  unfold writeH
  rw [if_neg (by rw [e]; simp)]
theorem hdr_seg {s : Nat} (hs : s ≤ 8) {l : Int} (hl : l = 104 + 16 * (s : Int)) : hdrB l = true := by
  unfold hdrB
  rw [decide_eq_true]
  omega
end Go.Proofs.Ytpfojangcgffkaa

/- Plain laws: a segment taken, pages allocated, a page written, on a heap of which all pages are known. Own work. -/
namespace Go.Proofs.Ytpfojangcgffkaa
open Go.RowKit
set_option linter.unusedVariables false
set_option linter.unusedSimpArgs false
set_option maxRecDepth 100000
/-! ### Tags -/
theorem m8 : ∀ i : Fin 64, (BitVec.ofInt 64 255).getLsbD i.val = decide (i.val < 8) := by decide +kernel
theorem m24 : ∀ i : Fin 64, (BitVec.ofInt 64 16777215).getLsbD i.val = decide (i.val < 24) := by decide +kernel
theorem kind_pack (t : Tg) (h : 0 ≤ t.kind ∧ t.kind < 256) : kindV (packT t) = t.kind := by
  have e : packT t &&& BitVec.ofInt 64 255 = BitVec.ofInt 64 t.kind &&& BitVec.ofInt 64 255 := by
    apply BitVec.eq_of_getLsbD_eq
    intro i hi
    have h1 := m8 ⟨i, hi⟩
    simp only at h1
    unfold packT
    simp only [BitVec.getLsbD_and, BitVec.getLsbD_or, BitVec.getLsbD_shiftLeft, h1]
    by_cases h8 : i < 8
    · simp [h8, show i < 32 by omega]
    · simp [h8]
  have e1 : kindV (packT t) = UV (packT t &&& BitVec.ofInt 64 255) := rfl
  rw [e1, e, UV_low 64 8 _ _ rfl, UV_ofInt64 (by omega)]
  omega
theorem gen_pack (t : Tg) (h : 0 ≤ t.gen ∧ t.gen ≤ 16777215) : genV (packT t) = t.gen := by
  have e : packT t >>> 8 &&& BitVec.ofInt 64 16777215 = BitVec.ofInt 64 t.gen &&& BitVec.ofInt 64 16777215 := by
    apply BitVec.eq_of_getLsbD_eq
    intro i hi
    have h1 := m24 ⟨i, hi⟩
    simp only at h1
    unfold packT
    simp only [BitVec.getLsbD_and, BitVec.getLsbD_or, BitVec.getLsbD_shiftLeft, BitVec.getLsbD_ushiftRight, h1]
    by_cases h8 : i < 24
    · have h2 : (BitVec.ofInt 64 255).getLsbD (8 + i) = false := by
        have := m8 ⟨8 + i, by omega⟩
        simp only at this
        rw [this]; simp
      have e1 : 8 + i - 8 = i := by omega
      have d1 : decide (8 + i < 64) = true := decide_eq_true (by omega)
      have d2 : decide (8 + i < 8) = false := decide_eq_false (by omega)
      have d3 : decide (8 + i < 32) = true := decide_eq_true (by omega)
      have d4 : decide (i < 24) = true := decide_eq_true h8
      simp only [h2, e1, h1, d1, d2, d3, d4, Bool.and_true, Bool.and_false, Bool.false_or, Bool.not_false, Bool.true_and, Bool.not_true, Bool.false_and, Bool.or_false]
    · simp [h8]
  have e1 : genV (packT t) = UV (packT t >>> 8 &&& BitVec.ofInt 64 16777215) := rfl
  rw [e1, e, UV_low 64 24 _ _ rfl, UV_ofInt64 (by omega)]
  omega
/-! ### Who owns what -/
theorem mem_ownV {b : BitVec 32} {x : Int} : ∀ {n : Nat}, x ∈ ownV b n ↔ ∃ s : Nat, s < n ∧ x = (s : Int) ∧ bitB b s = true
  | 0 => ⟨(fun h => by cases h), fun ⟨s, h, _⟩ => absurd h (Nat.not_lt_zero _)⟩
  | n + 1 => by
    unfold ownV
    by_cases hb : bitB b n = true
    · rw [if_pos hb, List.mem_append, mem_ownV]
      constructor
      · rintro (⟨s, h1, h2, h3⟩ | h)
        · exact ⟨s, by omega, h2, h3⟩
        · exact ⟨n, by omega, List.mem_singleton.1 h, hb⟩
      · rintro ⟨s, h1, h2, h3⟩
        by_cases e : s = n
        · subst e; exact .inr (by rw [h2]; simp)
        · exact .inl ⟨s, by omega, h2, h3⟩
    · rw [if_neg hb, mem_ownV]
      constructor
      · rintro ⟨s, h1, h2, h3⟩
        exact ⟨s, by omega, h2, h3⟩
      · rintro ⟨s, h1, h2, h3⟩
        by_cases e : s = n
        · subst e; exact absurd h3 hb
        · exact ⟨s, by omega, h2, h3⟩
structure Coh (n : Nat) (B : Nat → BitVec 32) (A : Nat → Int × BitVec 32) : Prop where
  bn : ∀ c i : Nat, c < 6 → (bitB (B c) i = true ↔ i < n ∧ (A i).1 = (c : Int))
  ow : ∀ s : Nat, s < n → -1 ≤ (A s).1 ∧ (A s).1 < 6
  us : ∀ s : Nat, s < n → usable (A s).2
section
variable {n : Nat} {G : Int} {B : Nat → BitVec 32} {A : Nat → Int × BitVec 32} {D : List (Nat × Nat)} {H : List Pg}
theorem sV_none {ks : List Pg} {st n : Nat} (h : ¬ sB ks st n = true) : ∀ s, s < n → freeB ks s = false := fun s hs => by
  have h0 : unO ks st n = none := by
    unfold sB at h
    cases hq : unO ks st n with
    | none => rfl
    | some i => rw [hq] at h; simp at h
  have key : ∀ (f : Nat → Bool) (m k : Nat), fstF f k m = none → ∀ i, k ≤ i → i < k + m → f i = false := fun f m => by
    induction m with
    | zero => intro k _ i h1 h2; omega
    | succ m ih =>
      intro k hk i h1 h2
      unfold fstF at hk
      split at hk
      · cases hk
      · rename_i g
        by_cases e : i = k
        · subst e; simpa using g
        · exact ih (k + 1) hk i (by omega) (by omega)
  have hi : (st + (s + n - st % n) % n) % n = s := by
    have h1 : st % n < n := Nat.mod_lt _ (by omega)
    rw [Nat.add_mod, Nat.mod_mod]
    rcases Nat.lt_or_ge s (st % n) with h2 | h2
    · rw [Nat.mod_eq_of_lt (a := s + n - st % n) (by omega), show st % n + (s + n - st % n) = s + n by omega, Nat.add_mod_right, Nat.mod_eq_of_lt hs]
    · rw [show s + n - st % n = (s - st % n) + n by omega, Nat.add_mod_right, Nat.mod_eq_of_lt (a := s - st % n) (by omega), show st % n + (s - st % n) = s by omega, Nat.mod_eq_of_lt hs]
  have := key _ n 0 h0 ((s + n - st % n) % n) (Nat.zero_le _) (by have := Nat.mod_lt (s + n - st % n) (show 0 < n by omega); omega)
  rw [hi] at this
  exact this
theorem free_own (h : Inv n G B A D H) (hn : n ≤ 9) {s : Nat} (hs : s < n) : freeB H s = decide ((A s).1 = -1) := by
  obtain ⟨p, _, e⟩ := h.head hs hn
  unfold freeB
  rw [e]
  simp
  rfl
theorem count_n {n : Nat} (hn : n ≤ 9) : countN (104 + 16 * (n : Int)) = n := by
  unfold countN countV
  rw [if_pos (by omega)]
  omega
theorem Inv.hdr0 (h : Inv n G B A D H) (hn : n ≤ 9) (b : BitVec 32) : missV H ((ownV b n).map lineV) = [] := h.miss fun l hl => by
  obtain ⟨x, hx, rfl⟩ := List.mem_map.1 hl
  obtain ⟨s, h1, rfl, _⟩ := mem_ownV.1 hx
  exact ⟨8 + 16 * s, by omega, line_seg (by omega)⟩
def updA (A : Nat → Int × BitVec 32) (s : Nat) (x : Int × BitVec 32) : Nat → Int × BitVec 32 := fun t => if t = s then x else A t
def updB (B : Nat → BitVec 32) (c : Nat) (b : BitVec 32) : Nat → BitVec 32 := fun t => if t = c then b else B t
/-- A segment is taken. -/
theorem acq_step (h : Inv n G B A D H) (hC : Coh n B A) (hn : n ≤ 9) {c : Nat} (hc : c < 6) :
    (sB H c (countN (104 + 16 * (n : Int))) = true → (mineW H c 1 (sV H c (countN (104 + 16 * (n : Int))))).l < (headW H c (sV H c (countN (104 + 16 * (n : Int))))).l) ∧ missV H (hdrL (104 + 16 * (n : Int))) = [] ∧
    (((∀ s, s < n → (A s).1 ≠ -1) ∧ acqV H c 1 (104 + 16 * (n : Int)) = ([], [], 0, 12, true)) ∨
     (∃ s w1 w2, s < n ∧ (A s).1 = -1 ∧ acqV H c 1 (104 + 16 * (n : Int)) = ([], [w1, w2], s, 0, true) ∧ (w1.l = 98 + (c : Int) ∧ w2.l = 104 + 16 * (s : Int)) ∧
      Inv n G (updB B c (B c ||| BitVec.ofInt 32 1 <<< s)) (updA A s (c, (A s).2)) D (comP (comP H w1) w2) ∧ Coh n (updB B c (B c ||| BitVec.ofInt 32 1 <<< s)) (updA A s (c, (A s).2)))) := by
  rw [count_n hn]
  have hm0 : missV H (hdrL (104 + 16 * (n : Int))) = [] := by
    unfold hdrL
    rw [count_n hn]
    exact h.hdr0 hn _
  obtain ⟨pn, inc, hpn, hinc, hnode⟩ := h.node hc
  have hm1 : missV H [98 + (c : Int)] = [] := h.miss fun l hl => ⟨2 + c, by omega, by rw [List.mem_singleton.1 hl]; omega⟩
  have hpl := h.ln _ _ hpn
  by_cases g : sB H c n = true
  · obtain ⟨hfr, hsn⟩ := sB_yes g
    obtain ⟨s, hs⟩ : ∃ s, sV H c n = s := ⟨_, rfl⟩
    rw [hs] at hfr hsn
    have hown : (A s).1 = -1 := by
      have := free_own h hn hsn
      rw [hfr] at this
      exact of_decide_eq_true this.symm
    obtain ⟨ph, hph, hhead⟩ := h.head hsn hn
    have hphl := h.ln _ _ hph
    have hbits : ∀ i, bitB (B c ||| BitVec.ofInt 32 1 <<< s) i = true → i < 9 := fun i hi => by
      rw [bit_or _ _ _ (by omega)] at hi
      rcases (Bool.or_eq_true_iff.1 hi) with hi | hi
      · have := ((hC.bn c i hc).1 hi).1; omega
      · have := of_decide_eq_true hi; omega
    have e1 : mineW H c 1 s = (writeN pn (ndB (B c ||| BitVec.ofInt 32 1 <<< s) 1)).1 := by
      unfold mineW
      rw [hnode]
      rfl
    have e2 : headW H c s = (writeH ph ⟨(c : Int), (A s).2⟩).1 := by
      unfold headW
      rw [hhead]
    have w1 := back_node (write_nd (p := pn) (b := B c ||| BitVec.ofInt 32 1 <<< s) (inc := 1) (by omega) hbits (by decide))
    have w2 := back_header (write_hd (p := ph) (o := (c : Int)) (u := (A s).2) (hdr_seg (s := s) (by omega) (by omega)) (by omega) (hC.us s hsn))
    rw [← e1] at w1
    rw [← e2] at w2
    have l1 : (mineW H c 1 s).l = 98 + (c : Int) := by rw [w1.2.1]; omega
    have l2 : (headW H c s).l = 104 + 16 * (s : Int) := by rw [w2.2.1]; omega
    refine ⟨fun _ => by rw [hs, l1, l2]; omega, hm0, .inr ⟨s, mineW H c 1 s, headW H c s, hsn, hown, ?_, ⟨l1, l2⟩, ?_, ?_⟩⟩
    · unfold acqV
      rw [hm1, hm0, hnode, if_neg (by simp), if_neg (by simp), if_neg (by simp), count_n hn, if_pos g, hs]
    · have h1 := h.comNode (c := c) (w := mineW H c 1 s) hc l1 (by decide) w1.1
      have h2 := h1.comHead (s := s) (w := headW H c s) (D' := D) hsn l2 w2.1 (fun i _ _ => Iff.rfl) (fun t i _ => Iff.rfl)
      exact h2
    · refine ⟨fun d i hd => ?_, fun t ht => ?_, fun t ht => ?_⟩
      · unfold updB updA
        have hbs := hC.bn d i hd
        by_cases hdc : d = c
        · subst hdc
          rw [if_pos rfl, bit_or _ _ _ (by omega), Bool.or_eq_true, hbs, decide_eq_true_iff]
          by_cases his : i = s
          · rw [if_pos his]; subst his; simp [hsn]
          · rw [if_neg his]; simp [his]
        · rw [if_neg hdc, hbs]
          by_cases his : i = s
          · rw [if_pos his]
            subst his
            rw [hown]
            simp only
            omega
          · rw [if_neg his]
      · unfold updA
        by_cases hts : t = s
        · rw [if_pos hts]; simp only; omega
        · rw [if_neg hts]; exact hC.ow t ht
      · unfold updA
        by_cases hts : t = s
        · rw [if_pos hts]; subst hts; exact hC.us t ht
        · rw [if_neg hts]; exact hC.us t ht
  · refine ⟨fun e => absurd e g, hm0, .inl ⟨fun s hs e => ?_, ?_⟩⟩
    · have h1 := sV_none g s hs
      rw [free_own h hn hs, e] at h1
      simp at h1
    · unfold acqV
      rw [hm1, hm0, hnode, if_neg (by simp), if_neg (by simp), if_neg (by simp), count_n hn, if_neg g]
/-! ### Pages allocated -/
def pkl (rs : Pk) : List (Nat × Nat) := rs.flatMap fun x => x.2.map fun i => (x.1.toNat, i)
theorem pkl_cons (x : Int × List Nat) (rs : Pk) : pkl (x :: rs) = (x.2.map fun i => (x.1.toNat, i)) ++ pkl rs := by unfold pkl; simp
theorem pkl_len (rs : Pk) : (pkl rs).length = totP rs := by
  induction rs with
  | nil => rfl
  | cons x rs ih => rw [pkl_cons, List.length_append, ih]; unfold totP; simp
theorem mem_pkl {rs : Pk} {t i : Nat} : (t, i) ∈ pkl rs ↔ ∃ x, x ∈ rs ∧ x.1.toNat = t ∧ i ∈ x.2 := by
  unfold pkl
  rw [List.mem_flatMap]
  constructor
  · rintro ⟨x, h1, h2⟩
    obtain ⟨j, h3, h4⟩ := List.mem_map.1 h2
    injection h4 with h4 h5
    exact ⟨x, h1, h4, h5 ▸ h3⟩
  · rintro ⟨x, h1, h2, h3⟩
    exact ⟨x, h1, List.mem_map.2 ⟨i, h3, by rw [h2]⟩⟩
theorem pkl_nodup : ∀ {rs : Pk}, (rs.map Prod.fst).Nodup → (∀ x, x ∈ rs → 0 ≤ x.1 ∧ x.2.Nodup) → (pkl rs).Nodup
  | [], _, _ => List.nodup_nil
  | x :: rs, hn, hq => by
    rw [pkl_cons]
    rw [List.map_cons, List.nodup_cons] at hn
    refine List.nodup_append.2 ⟨?_, pkl_nodup hn.2 fun y hy => hq y (List.mem_cons_of_mem _ hy), fun a ha b hb e => ?_⟩
    · refine List.Pairwise.map _ (fun a b hab e => ?_) (hq x (List.mem_cons_self ..)).2
      injection e with e1 e2
      exact hab e2
    · obtain ⟨i, hi, rfl⟩ := List.mem_map.1 ha
      rw [← e] at hb
      obtain ⟨y, h1, h2, h3⟩ := mem_pkl.1 hb
      have h4 := (hq x (List.mem_cons_self ..)).1
      have h5 := (hq y (List.mem_cons_of_mem _ h1)).1
      exact hn.1 (List.mem_map.2 ⟨y, h1, by omega⟩)
theorem wri_cons (ks : List Pg) (x : Int × List Nat) (rs : Pk) : wriP ks (x :: rs) = if x.2 = [] then wriP ks rs else (writeH (headV ks x.1).1 (newHd ks x)).1 :: wriP ks rs := by
  unfold wriP
  cases h : x.2 with
  | nil => rw [if_pos rfl, List.filter_cons_of_neg (by rw [h]; simp)]
  | cons a q => rw [if_neg (by simp), List.filter_cons_of_pos (by rw [h]; simp)]; rfl
theorem heads_step (hn : n ≤ 9) {H0 : List Pg} {A0 : Nat → Int × BitVec 32} {B0 : Nat → BitVec 32} {D0 : List (Nat × Nat)} (h0 : Inv n G B0 A0 D0 H0) (hus : ∀ s : Nat, s < n → usable (A0 s).2) (how : ∀ s : Nat, s < n → -1 ≤ (A0 s).1 ∧ (A0 s).1 < 6) :
    ∀ (rs : Pk) (A : Nat → Int × BitVec 32) (D : List (Nat × Nat)) (H : List Pg), Inv n G B A D H → (rs.map Prod.fst).Nodup →
    (∀ x, x ∈ rs → ∃ s : Nat, s < n ∧ x.1 = (s : Int) ∧ A s = A0 s ∧ (∀ i, i ∈ x.2 → (1 ≤ i ∧ i ≤ 15) ∧ bitB (A0 s).2 i = false) ∧ ∀ i, (s, i) ∉ D) →
    (∀ w, w ∈ wriP H0 rs → 0 ≤ w.l ∧ w.l ≤ 300) ∧
    ∃ A' : Nat → Int × BitVec 32, (∀ s, (A' s).1 = (A s).1) ∧ (∀ s i, bitB (A' s).2 i = (bitB (A s).2 i || decide ((s, i) ∈ pkl rs))) ∧ Inv n G B A' (D ++ pkl rs) ((wriP H0 rs).foldl comP H)
  | [], A, D, H, h, _, _ => ⟨fun w hw => by simp [wriP] at hw, A, fun _ => rfl, fun s i => by simp [pkl], by simpa [pkl, wriP] using h⟩
  | x :: rs, A, D, H, h, hnd, hx => by
    obtain ⟨s, hs, hxs, hAs, hi, hD⟩ := hx x (List.mem_cons_self ..)
    rw [List.map_cons, List.nodup_cons] at hnd
    rw [wri_cons, pkl_cons, hxs, Int.toNat_natCast]
    by_cases hq : x.2 = []
    · rw [if_pos hq, hq, List.map_nil, List.nil_append]
      exact heads_step hn h0 hus how rs A D H h hnd.2 fun y hy => hx y (List.mem_cons_of_mem _ hy)
    · rw [if_neg hq]
      obtain ⟨ph, hph, hhead⟩ := h0.head hs hn
      have hphl := h0.ln _ _ hph
      have hlt : ∀ j, j ∈ x.2 → j < 32 := fun j hj => by have := (hi j hj).1; omega
      have hu : usable (orb (A0 s).2 x.2) := fun j hj => by
        rw [bit_orb j _ _ hlt] at hj
        rcases Bool.or_eq_true_iff.1 hj with hj | hj
        · exact hus s hs j hj
        · exact (hi j (of_decide_eq_true hj)).1
      have ew : (writeH (headV H0 (s : Int)).1 (newHd H0 x)).1 = (writeH ph ⟨(A0 s).1, orb (A0 s).2 x.2⟩).1 := by
        unfold newHd hdS'
        rw [hxs, hhead]
      have w2 := back_header (write_hd (p := ph) (o := (A0 s).1) (u := orb (A0 s).2 x.2) (hdr_seg (s := s) (by omega) (by omega)) (how s hs) hu)
      rw [ew]
      obtain ⟨w, hw⟩ : ∃ w, (writeH ph ⟨(A0 s).1, orb (A0 s).2 x.2⟩).1 = w := ⟨_, rfl⟩
      rw [hw] at w2 ⊢
      have hl : w.l = 104 + 16 * (s : Int) := by rw [w2.2.1]; omega
      have h1 := h.comHead (s := s) (w := w) (D' := D ++ x.2.map fun i => (s, i)) hs hl w2.1 (fun i h1 h2 => by
        rw [hAs, bit_orb i _ _ hlt]
        constructor
        · rintro (hb | hb)
          · by_cases hm : i ∈ x.2
            · exact .inr (List.mem_append_right _ (List.mem_map.2 ⟨i, hm, rfl⟩))
            · exact .inl (by rw [hb]; simp [hm])
          · exact absurd hb (hD i)
        · rintro (hb | hb)
          · exact .inl (by rw [Bool.or_eq_false_iff] at hb; exact hb.1)
          · rcases List.mem_append.1 hb with hb | hb
            · exact absurd hb (hD i)
            · obtain ⟨j, hj, e⟩ := List.mem_map.1 hb
              injection e with _ e
              exact .inl (e ▸ (hi j hj).2)) (fun t i ht => by
        constructor
        · exact fun hm => List.mem_append_left _ hm
        · intro hm
          rcases List.mem_append.1 hm with hm | hm
          · exact hm
          · obtain ⟨j, _, e⟩ := List.mem_map.1 hm
            injection e with e _
            exact absurd e.symm ht)
      obtain ⟨q1, A', q2, q3, q4⟩ := heads_step hn h0 hus how rs _ _ _ h1 hnd.2 fun y hy => by
        obtain ⟨t, ht, hyt, hAt, hti, hDt⟩ := hx y (List.mem_cons_of_mem _ hy)
        have hne : t ≠ s := fun e => hnd.1 (List.mem_map.2 ⟨y, hy, by rw [hyt, hxs, e]⟩)
        refine ⟨t, ht, hyt, by rw [if_neg hne]; exact hAt, hti, fun i hm => ?_⟩
        rcases List.mem_append.1 hm with hm | hm
        · exact hDt i hm
        · obtain ⟨j, _, e⟩ := List.mem_map.1 hm
          injection e with e _
          exact hne e.symm
      refine ⟨fun v hv => ?_, A', fun t => ?_, fun t i => ?_, ?_⟩
      · rcases List.mem_cons.1 hv with hv | hv
        · rw [hv]; omega
        · exact q1 v hv
      · rw [q2]
        by_cases e : t = s
        · rw [if_pos e, e, hAs]
        · rw [if_neg e]
      · rw [q3]
        by_cases e : t = s
        · subst e
          rw [if_pos rfl, bit_orb i _ _ hlt, hAs]
          by_cases hm : i ∈ x.2 <;> simp [hm]
        · rw [if_neg e]
          have : ¬ (t, i) ∈ x.2.map fun i => (s, i) := fun hm => by
            obtain ⟨j, _, e2⟩ := List.mem_map.1 hm
            injection e2 with e2 _
            exact e e2.symm
          rw [show decide ((t, i) ∈ (x.2.map fun i => (s, i)) ++ pkl rs) = decide ((t, i) ∈ pkl rs) by simp only [List.mem_append, this, false_or]]
      · rw [List.foldl_cons]
        rw [List.append_assoc] at q4
        exact q4
theorem Inv.free (h : Inv n G B A [] H) (hn : n ≤ 9) (hG : G < 16777215) {s : Nat} (hs : s < n) : Free H s := fun i h1 h2 h3 => by
  obtain ⟨ph, hph, hhead⟩ := h.head hs hn
  have e : (hdS' H s).used = (A s).2 := by unfold hdS'; rw [hhead]
  rw [e] at h3
  obtain ⟨p, hp, hp1, hp2⟩ := h.page (i := i) hs hn h2
  obtain ⟨h4, h5⟩ := h.dp s i p hs h1 h2 hp
  refine ⟨hp2, ?_⟩
  unfold pkV
  rw [if_pos hp2, hp1, if_neg (by rw [h.un _ p hp]; simp), if_neg (by rw [h4.2 (.inl h3)]; simp), if_neg (by omega)]
def freN (n : Nat) (A : Nat → Int × BitVec 32) (c : Nat) : Nat := ((List.range n).map fun s => if (A s).1 = (c : Int) then (frL (A s).2).length else 0).sum
theorem sum_own {f : Int → Nat} {b : BitVec 32} {g : Nat → Nat} : ∀ {n : Nat}, (∀ s : Nat, s < n → (if bitB b s = true then f s else 0) = g s) → ((ownV b n).map f).sum = ((List.range n).map g).sum
  | 0, _ => rfl
  | n + 1, h => by
    have ih := sum_own (f := f) (b := b) (g := g) (n := n) fun s hs => h s (by omega)
    have h1 := h n (by omega)
    unfold ownV
    rw [List.range_succ, List.map_append, List.sum_append]
    by_cases hb : bitB b n = true
    · rw [if_pos hb] at h1
      rw [if_pos hb, List.map_append, List.sum_append, ih]
      simp [h1]
    · rw [if_neg hb] at h1
      rw [if_neg hb, ih]
      simp [← h1]
theorem flatMap_cg {α β : Type} {f g : α → List β} : ∀ {l : List α}, (∀ x, x ∈ l → f x = g x) → l.flatMap f = l.flatMap g
  | [], _ => rfl
  | x :: l, h => by rw [List.flatMap_cons, List.flatMap_cons, h x (List.mem_cons_self ..), flatMap_cg fun y hy => h y (List.mem_cons_of_mem _ hy)]
theorem alo_step (h : Inv n G B A [] H) (hC : Coh n B A) (hn : n ≤ 9) {c cnt : Nat} (hc : c < 6) (hG : G < 16777215) :
    (freN n A c < cnt ∧ aloH H c cnt (ownV (B c) n) (ownV (B c) n) = errA 12) ∨
    (cnt ≤ freN n A c ∧ ∃ (pk : List (Nat × Nat)) (W : List Pg), pk.length = cnt ∧ pk.Nodup ∧ (∀ s i, (s, i) ∈ pk → s < n ∧ (1 ≤ i ∧ i ≤ 15) ∧ (A s).1 = (c : Int) ∧ bitB (A s).2 i = false) ∧
      aloH H c cnt (ownV (B c) n) (ownV (B c) n) = ([], pk.map (fun x => latP H (lineV (x.1 : Int) + (x.2 : Int))), W, 0, true) ∧ (∀ w, w ∈ W → 0 ≤ w.l ∧ w.l ≤ 300) ∧
      ∃ A' : Nat → Int × BitVec 32, (∀ s, (A' s).1 = (A s).1) ∧ (∀ s i, bitB (A' s).2 i = (bitB (A s).2 i || decide ((s, i) ∈ pk))) ∧ Inv n G B A' pk (W.foldl comP H)) := by
  have hS : ∀ x, x ∈ ownV (B c) n → ∃ s : Nat, s < n ∧ x = (s : Int) ∧ (A s).1 = (c : Int) ∧ headV H x = ((headV H x).1, ⟨(c : Int), (A s).2⟩, true, 0) := fun x hx => by
    obtain ⟨s, hs, rfl, hb⟩ := mem_ownV.1 hx
    obtain ⟨ph, hph, hhead⟩ := h.head hs hn
    have ho := ((hC.bn c s hc).1 hb).2
    exact ⟨s, hs, rfl, ho, by rw [hhead, ho]⟩
  have hfr : frS H (ownV (B c) n) = freN n A c := by
    unfold frS freN
    refine sum_own fun s hs => ?_
    obtain ⟨ph, hph, hhead⟩ := h.head hs hn
    have e : (hdS' H s).used = (A s).2 := by unfold hdS'; rw [hhead]
    rw [e]
    by_cases hb : (A s).1 = (c : Int)
    · rw [if_pos hb, if_pos ((hC.bn c s hc).2 ⟨hs, hb⟩)]
    · rw [if_neg hb, if_neg (fun hh => hb ((hC.bn c s hc).1 hh).2)]
  rw [← hfr]
  rcases alo_all (ks := H) (cl := (c : Int)) (cnt := cnt) (S := ownV (B c) n) (ownV_nodup _ _) (fun x hx => by
      obtain ⟨s, hs, rfl, ho, he⟩ := hS x hx
      unfold hdS'
      rw [he]
      exact ⟨rfl, rfl, hC.us s hs⟩) (fun x hx => by
      obtain ⟨s, hs, rfl, ho, he⟩ := hS x hx
      exact h.free hn hG hs) with ⟨h1, h2⟩ | ⟨h1, rs, r1, r2, r3, r4⟩
  · exact .inl ⟨h1, h2⟩
  · have r2' : ∀ x, x ∈ rs → ∃ s : Nat, s < n ∧ x.1 = (s : Int) ∧ (A s).1 = (c : Int) ∧ x.2.Nodup ∧ (∀ i, i ∈ x.2 → (1 ≤ i ∧ i ≤ 15) ∧ bitB (A s).2 i = false) := fun x hx => by
      obtain ⟨q1, m, q2⟩ := r2 x hx
      obtain ⟨s, hs, hxs, ho, he⟩ := hS _ q1
      have e : (hdS' H x.1).used = (A s).2 := by unfold hdS'; rw [he]
      rw [e] at q2
      refine ⟨s, hs, hxs, ho, ?_, fun i hi => ?_⟩
      · rw [q2]
        exact (List.take_sublist _ _).nodup (frL_nodup _)
      · rw [q2] at hi
        exact mem_frL.1 (List.mem_of_mem_take hi)
    obtain ⟨k1, A', k2, k3, k4⟩ := heads_step hn h hC.us hC.ow rs A [] H h r1 fun x hx => by
      obtain ⟨s, hs, hxs, ho, _, hi⟩ := r2' x hx
      exact ⟨s, hs, hxs, rfl, hi, fun i hm => by cases hm⟩
    refine .inr ⟨h1, pkl rs, wriP H rs, by rw [pkl_len, r3], pkl_nodup r1 fun x hx => ?_, fun s i hm => ?_, ?_, k1, A', k2, k3, by simpa using k4⟩
    · obtain ⟨s, hs, hxs, ho, hq, hi⟩ := r2' x hx
      exact ⟨by omega, hq⟩
    · obtain ⟨x, q1, q2, q3⟩ := mem_pkl.1 hm
      obtain ⟨t, hs, hxs, ho, hq, hi⟩ := r2' x q1
      have e : t = s := by omega
      subst e
      exact ⟨hs, (hi i q3).1, ho, (hi i q3).2⟩
    · rw [r4]
      have e : freP H rs = (pkl rs).map fun x => latP H (lineV (x.1 : Int) + (x.2 : Int)) := by
        have e1 : (linP rs).filter (fun l => latB H l) = linP rs := List.filter_eq_self.2 fun l hl => by
          unfold linP at hl
          obtain ⟨x, hx, hl⟩ := List.mem_flatMap.1 hl
          obtain ⟨i, hi, rfl⟩ := List.mem_map.1 hl
          obtain ⟨s, hs, hxs, ho, hq, hii⟩ := r2' x hx
          rw [hxs]
          obtain ⟨p, _, _, hp⟩ := h.page (i := i) hs hn (hii i hi).1.2
          exact hp
        unfold freP
        rw [e1]
        unfold linP pkl
        rw [List.map_flatMap, List.map_flatMap]
        refine flatMap_cg fun x hx => ?_
        obtain ⟨s, hs, hxs, _⟩ := r2' x hx
        rw [List.map_map, List.map_map]
        refine List.map_congr_left fun i hi => ?_
        simp only [Function.comp]
        rw [hxs]
        rfl
      rw [e]
/-! ### A page is written -/
theorem all_ok {p : Pg} {kind : Int} (h1 : 104 ≤ p.l ∧ p.l < 256) (h2 : lockB p = false) (h3 : kindV p.d0 = 0) (h4 : genV p.d0 < 16777215) : allP p kind 0#32 = (tagP p ⟨kind, genV p.d0 + 1, 0#32⟩, 0) := by
  unfold allP
  rw [if_pos (by unfold heapB; simp; omega), if_neg (by rw [h2]; simp), if_neg (by rw [h3]; simp), if_neg (by omega)]
theorem page_step {s i : Nat} (h : Inv n G B A ((s, i) :: D) H) {p : Pg} {kind : Int} (hs : s < n) (hi : 1 ≤ i ∧ i ≤ 15) (hb : bitB (A s).2 i = true) (hD : (s, i) ∉ D) (hl : p.l = 104 + 16 * (s : Int) + i) (hg : genV p.d0 + 1 ≤ G) (hG : G ≤ 16777215) (hk : 1 ≤ kind ∧ kind ≤ 4) :
    Inv n G B A D (comP H (tagP p ⟨kind, genV p.d0 + 1, 0#32⟩)) := by
  have h0 : 0 ≤ genV p.d0 := by rw [gen_eq]; omega
  have e1 : kindV (tagP p ⟨kind, genV p.d0 + 1, 0#32⟩).d0 = kind := kind_pack _ (by simp only; omega)
  have e2 : genV (tagP p ⟨kind, genV p.d0 + 1, 0#32⟩).d0 = genV p.d0 + 1 := gen_pack _ (by simp only; omega)
  refine h.comPage (s := s) (i := i) hs hi hl (Int.le_refl _) (by rw [e2]; exact hg) ?_ fun t j hne => ?_
  · rw [e1, hb]
    constructor
    · intro e; omega
    · rintro (e | e)
      · cases e
      · exact absurd e hD
  · constructor
    · intro hm
      rcases List.mem_cons.1 hm with e | hm
      · exact absurd e hne
      · exact hm
    · exact fun hm => List.mem_cons_of_mem _ hm
end
end Go.Proofs.Ytpfojangcgffkaa

/- A call to which own memory is lent and that hands back own memory. Own work. -/
namespace Go.Proofs.Ytpfojangcgffkaa
open Go.RowKit
set_option linter.unusedVariables false
set_option linter.unusedSimpArgs false
/-- A thing in memory that names no other memory. -/
def PureI (it : Item) : Prop := ∀ φ φ' o, it.ok φ o → it.ok φ' o
def PureIs : List Item → Prop
  | [] => True
  | it :: L => PureI it ∧ PureIs L
theorem PureIs.at_ : ∀ {L : List Item} {it : Item}, PureIs L → it ∈ L → PureI it
  | x :: L, it, ⟨h1, h2⟩, h => by
    rcases List.mem_cons.1 h with h | h
    · subst h; exact h1
    · exact PureIs.at_ h2 h
theorem flat_pure {α : Type} {T : Ty α} (hT : ∀ x, PureVs (T.cells x)) {φ φ' : Fz} : ∀ (ys : List α) (us : List Value), Alls φ (ys.flatMap T.cells) us → Alls φ' (ys.flatMap T.cells) us
  | [], us, hh => by
    match us, hh with
    | [], _ => trivial
  | y :: ys, us, hh => by
    rw [List.flatMap_cons] at hh ⊢
    have hl : (T.cells y).length = T.size := T.len y
    have e1 := hh.take T.size
    have e2 := hh.drop T.size
    rw [← hl, List.take_left] at e1
    rw [← hl, List.drop_left] at e2
    have e3 := (hT y).alls (φ' := φ') e1
    have e4 := flat_pure hT (φ' := φ') ys _ e2
    have := e3.append e4
    rwa [List.take_append_drop] at this
theorem pureI_buf {α : Type} {T : Ty α} {v : Value} {e : TypeId} {xs : List α} (hT : ∀ x, PureVs (T.cells x)) : PureI (buf v e T xs) := fun φ φ' o ⟨flat, h0, h1, h2, h3⟩ => ⟨flat, h0, flat_pure hT _ _ h1, h2, h3⟩
theorem pureI_blk {b : Nat} {t : TypeId} {As : List VP} (h : PureVs As) : PureI (blk b t As) := fun φ φ' o ⟨vs, e, k, k1⟩ => ⟨vs, e, h.alls k, k1⟩
theorem pure_top : PureV Top := fun _ _ _ _ => trivial
theorem HP.pure {φ φ1 φ' : Fz} {M : List Item} {w w' : World} (hb : ∀ b i v, φ b i = some v → w.cell? ⟨b, i, none⟩ = some v) (hle : Fle φ φ1) (h : HP ⟨w, φ1, [], []⟩ φ' M w') (hM : PureIs M) : HP ⟨w, φ, [], []⟩ φ M w' := by
  refine ⟨⟨fun b i v e => ?_, fun it hi => ?_, h.mem.sep⟩, h.kept, h.mine, fun _ _ _ => rfl⟩
  · exact h.mem.base b i v (by rw [h.old b i (cell_lt (hb b i v e))]; exact hle _ _ _ e)
  · obtain ⟨h1, h2⟩ := h.mem.items it hi
    refine ⟨hM.at_ hi _ _ _ h1, fun b hat => ⟨(h2 b hat).1, fun i => ?_⟩⟩
    rcases h.mine b (mem_names.2 ⟨it, hi, hat⟩) with h3 | h3
    · cases hq : φ b i with
      | none => rfl
      | some v => exact absurd (cell_lt (hb b i v hq)) (Nat.not_lt.2 h3)
    · cases h3
section
variable {P : Program} {c : Ctx} {A : Nat → Option VP} {L : List Item} {d : Option Tmp} {ty : TypeId} {pos : String} {af : Array Edge} {g : Option (Nat × Bool)}
theorem op_callLO {f : FuncId} {xs : List Operand} {ts : Array TypeId} {As : List VP} {L' : List Item} {ι : Type} {R : ι → VP} {M : ι → List Item} (hL : LendL L L') (hc : ∀ (args : Array Value) (w : World), (callFunc f args).run P w = .ok (.enter f args) w)
    (hF : Fn P f As [] R M) (ha : ArgsE A L' xs As) (hR : ∀ i, PureV (R i)) (hM : ∀ i, PureIs (M i)) : OpS P c ⟨d, .call { callee := .value (.func f), args := xs.toArray, argTypes := ts }, ty, pos, af, g⟩ A L R (fun i => M i ++ L) := by
  intro φ a w K Q hm he hk
  obtain ⟨φ1, hle, hm1⟩ := hL.mem [] φ w hm.mem
  rw [List.nil_append] at hm1
  have hv := ha.alls (φ := φ1) (a := a) fun x hx B hB => by
    obtain ⟨D, h1, h2⟩ := hB
    exact h2 φ1 _ hm1.facts (D.mono hle (he x (by simp [Op.operands, Call.operands, hx]) D (.rfl' h1)))
  unfold Oper.wp
  rw [run_enter hc]
  refine (hF φ1 w _ hv ⟨hm1.base, by simp, List.Pairwise.nil⟩).mono ?_
  rintro e w' ⟨i, v, φ', rfl, h1, h2⟩
  have h2' : HP ⟨w, φ1, [], []⟩ φ' (M i) w' := by simpa [names] using h2
  have h3 := HP.pure hm.mem.base hle h2' (hM i)
  exact hk i φ v w' Fle.rfl' (hR i _ _ _ h1) (hm.new h3)
end
theorem Fn.weak {P : Program} {f : FuncId} {As : List VP} {L : List Item} {ι : Type} {R R' : ι → VP} {L' : ι → List Item} (h : Fn P f As L R L') (hs : ∀ i φ v, (R i).ok φ v → (R' i).ok φ v) : Fn P f As L R' L' := fun φ w vs ha hm =>
  (h φ w vs ha hm).mono fun e w' ⟨i, v, φ', h1, h2, h3⟩ => ⟨i, v, φ', h1, hs i _ _ h2, h3⟩
theorem tup_top {A : VP} {As : List VP} {φ : Fz} {v : Value} (h : (IsTup (A :: As)).ok φ v) : (IsTup (Top :: As)).ok φ v := by
  obtain ⟨vs, e, k⟩ := h
  match vs, k with
  | u :: us, ⟨_, k2⟩ => exact ⟨_, e, trivial, k2⟩
end Go.Proofs.Ytpfojangcgffkaa

/- The law SegmentWhole: a new heap; free pages counted; the walk. Own work. -/
namespace Go.Proofs.Ytpfojangcgffkaa
open Go.RowKit
set_option linter.unusedVariables false
set_option linter.unusedSimpArgs false
set_option maxRecDepth 100000
theorem pure_pg : ∀ p : Pg, PureVs (tPg.cells p) := fun p => ⟨pure_is, pure_is, pure_is, pure_is, pure_is, pure_is, pure_is, pure_is, pure_is, trivial⟩
theorem AcquireW_ok (ks : List Pg) (cl : Nat) (inc lines : Int) (hc : cl < 6) (hi : 1 ≤ inc ∧ inc ≤ 59) (hz : sizeB lines = true) (h2m : ¬ 0 < (missV ks [98 + (cl : Int)]).length → (missV ks (hdrL lines)).length ≤ 1)
    (hlt : sB ks cl (countN lines) = true → (mineW ks cl inc (sV ks cl (countN lines))).l < (headW ks cl (sV ks cl (countN lines))).l) (r : List Int × List Pg × Nat × Int × Bool) (hr : acqV ks cl inc lines = r) :
    Fn Try.prog 38 [IsAgg [Is (.int .i64 (cl : Nat)), Is (.int .i64 inc), Is (.int .i64 lines), Is (.int .i64 (-1))], IsSl tPg ks] [] (fun i : Option Addr × Nat => IsTup [Top, Is (slV r.2.1.length i), Is (.int .i64 (r.2.2.1 : Nat)), Is (.int .i64 r.2.2.2.1), Is (.bool r.2.2.2.2)]) (fun i => [buf (slV r.2.1.length i) 25 tPg r.2.1]) := by
  subst hr
  exact (AcquireF_ok ks cl inc lines hc hi hz h2m hlt).weak fun i φ v h => tup_top h
theorem AllocateW_ok (ks : List Pg) (cl cnt : Nat) (lines : Int) (pn : Pg) (nd : Nd) (R : Alo) (hc : cl < 6) (hz0 : sizeB lines = true) (hcnt : 1 ≤ cnt ∧ cnt ≤ 12) (hN : nodeV ks cl = (pn, nd, true, 0)) (hM0 : missV ks ((ownV nd.sg (countN lines)).map lineV) = []) (hR0 : aloH ks cl cnt (ownV nd.sg (countN lines)) (ownV nd.sg (countN lines)) = R) :
    Fn Try.prog 40 [IsAgg [Is (.int .i64 (cl : Nat)), Is (.int .i64 lines), Is (.int .i64 (cnt : Nat))], IsSl tPg ks] [] (fun i : (Option Addr × Nat) × (Option Addr × Nat) => IsTup [Top, Is (slV R.2.1.length i.1), Is (slV R.2.2.1.length i.2), Is (.int .i64 R.2.2.2.1), Is (.bool R.2.2.2.2)])
      (fun i => [buf (slV R.2.1.length i.1) 25 tPg R.2.1, buf (slV R.2.2.1.length i.2) 25 tPg R.2.2.1]) :=
  (Allocate_ok ks cl cnt lines pn nd R hc hz0 hcnt hN hM0 hR0).weak fun i φ v h => tup_top h
theorem pure_r1 {a b c d : Value} : PureV (IsTup [Top, Is a, Is b, Is c, Is d]) := pure_tup ⟨pure_top, pure_is, pure_is, pure_is, pure_is, trivial⟩
/-! ### A new heap -/
theorem newL_get : ∀ (n k : Nat) (p : Pg), (newL n)[k]? = some p → p = pgN k
  | 0, k, p, h => by simp [newL] at h
  | n + 1, k, p, h => by
    rw [newL_succ, List.getElem?_append] at h
    split at h
    · exact newL_get n k p h
    · rename_i hk
      rw [newL_len] at h hk
      have : k - n = 0 := by
        rcases Nat.eq_zero_or_pos (k - n) with e | e
        · exact e
        · rw [List.getElem?_eq_none (by simp; omega)] at h; cases h
      rw [this] at h
      simp at h
      rw [← h, show k = n by omega]
theorem bit0 (i : Nat) : bitB 0#32 i = false := by rw [bit_lsb]; simp
theorem usable0 : usable 0#32 := fun i h => by rw [bit0] at h; cases h
theorem new_inv (n : Nat) (hn : n ≤ 9) : Inv n 0 (fun _ => 0#32) (fun _ => (-1, 0#32)) [] (newL (8 + 16 * n)) ∧ Coh n (fun _ => 0#32) (fun _ => (-1, 0#32)) := by
  refine ⟨⟨newL_len _, fun k p h => by rw [newL_get _ _ _ h]; rfl, fun k p h => by rw [newL_get _ _ _ h]; show (UV (256#64 &&& 255#64) != 0) = false; decide +kernel, fun c p hc h => ?_, fun s p hs h => ?_, fun s i p hs h1 h2 h => ?_⟩, fun c i hc => ?_, fun s hs => by simp, fun s hs => usable0⟩
  · rw [newL_get _ _ _ h]
    refine ⟨0, by decide, ?_⟩
    match c, hc with
    | 0, _ => rfl
    | 1, _ => rfl
    | 2, _ => rfl
    | 3, _ => rfl
    | 4, _ => rfl
    | 5, _ => rfl
  · rw [newL_get _ _ _ h]
    unfold readH
    rw [if_pos (hdr_seg (s := s) (by omega) (by show (96 : Int) + ((8 + 16 * s : Nat) : Int) = _; omega)), if_neg (by show ¬ (useB (pgN 0) || !zB (pgN 0)) = true; decide +kernel)]
    show ((⟨UV 0#64 - 1, (0#64).setWidth 32⟩ : Hd), (0 : Int)) = _
    decide +kernel
  · rw [newL_get _ _ _ h]
    have e1 : kindV (pgN (8 + 16 * s + i)).d0 = 0 := by show kindV 0#64 = 0; decide +kernel
    have e2 : genV (pgN (8 + 16 * s + i)).d0 = 0 := by show genV 0#64 = 0; decide +kernel
    rw [e1, e2]
    exact ⟨⟨fun _ => .inl (bit0 i), fun _ => rfl⟩, Int.le_refl _⟩
  · rw [bit0]
    constructor
    · intro h; cases h
    · rintro ⟨_, h⟩
      have h' : (-1 : Int) = (c : Int) := h
      omega
/-! ### Sums -/
theorem sum_one {g g' : Nat → Nat} {s : Nat} : ∀ {n : Nat}, s < n → g' s + 1 = g s → (∀ t, t ≠ s → g' t = g t) → ((List.range n).map g').sum + 1 = ((List.range n).map g).sum
  | 0, h, _, _ => absurd h (Nat.not_lt_zero _)
  | n + 1, h, h1, h2 => by
    rw [List.range_succ, List.map_append, List.map_append, List.sum_append, List.sum_append]
    simp only [List.map_cons, List.map_nil, List.sum_cons, List.sum_nil]
    by_cases e : s = n
    · subst e
      have : (List.range s).map g' = (List.range s).map g := List.map_congr_left fun t ht => h2 t (by have := List.mem_range.1 ht; omega)
      rw [this]
      omega
    · have := sum_one (n := n) (by omega) h1 h2
      rw [h2 n (fun e2 => e e2.symm)]
      omega
theorem sum_zero {g : Nat → Nat} : ∀ {n : Nat}, ((List.range n).map g).sum = 0 → ∀ s, s < n → g s = 0
  | 0, _, s, h => absurd h (Nat.not_lt_zero _)
  | n + 1, h0, s, h => by
    rw [List.range_succ, List.map_append, List.sum_append] at h0
    simp only [List.map_cons, List.map_nil, List.sum_cons, List.sum_nil] at h0
    by_cases e : s = n
    · subst e; omega
    · exact sum_zero (n := n) (by omega) s (by omega)
theorem sum_const {g : Nat → Nat} {a : Nat} : ∀ {n : Nat}, (∀ s, s < n → g s = a) → ((List.range n).map g).sum = a * n
  | 0, _ => rfl
  | n + 1, h => by
    rw [List.range_succ, List.map_append, List.sum_append, sum_const fun s hs => h s (by omega)]
    simp only [List.map_cons, List.map_nil, List.sum_cons, List.sum_nil]
    rw [h n (by omega), Nat.mul_succ]; omega
def unN (n : Nat) (A : Nat → Int × BitVec 32) : Nat := ((List.range n).map fun s => if (A s).1 = -1 then 1 else 0).sum
theorem un_step {n s : Nat} {A : Nat → Int × BitVec 32} {o : Int} {u : BitVec 32} (hs : s < n) (h : (A s).1 = -1) (ho : o ≠ -1) : unN n (updA A s (o, u)) + 1 = unN n A := by
  unfold unN
  refine sum_one hs ?_ fun t ht => ?_
  · unfold updA; rw [if_pos rfl, if_pos h, if_neg ho]
  · unfold updA; rw [if_neg ht]
theorem frL_or {u : BitVec 32} {i : Nat} (h1 : 1 ≤ i ∧ i ≤ 15) (hb : bitB u i = false) : (frL (u ||| BitVec.ofInt 32 1 <<< i)).length + 1 = (frL u).length := by
  have hm : i ∈ frL u := mem_frL.2 ⟨h1, hb⟩
  have e : frL (u ||| BitVec.ofInt 32 1 <<< i) = (frL u).erase i := by
    rw [(frL_nodup u).erase_eq_filter]
    unfold frL
    rw [List.filter_filter]
    refine List.filter_congr fun j hj => ?_
    rw [bit_or _ _ _ (by omega)]
    cases bitB u j <;> by_cases e : j = i <;> simp [e]
  rw [e, List.length_erase_of_mem hm]
  have := List.length_pos_of_mem hm
  omega
theorem frL_ext {u v : BitVec 32} (h : ∀ i, bitB u i = bitB v i) : frL u = frL v := by
  unfold frL
  exact List.filter_congr fun i _ => by rw [h i]
theorem freN_ext {n c : Nat} {A A' : Nat → Int × BitVec 32} (h1 : ∀ s, (A' s).1 = (A s).1) (h2 : ∀ s i, s < n → bitB (A' s).2 i = bitB (A s).2 i) : freN n A' c = freN n A c := by
  unfold freN
  congr 1
  refine List.map_congr_left fun s hs => ?_
  rw [h1 s, frL_ext fun i => h2 s i (List.mem_range.1 hs)]
theorem freN_sub {n c : Nat} : ∀ {pk : List (Nat × Nat)} {A A' : Nat → Int × BitVec 32}, pk.Nodup → (∀ s i, (s, i) ∈ pk → s < n ∧ (1 ≤ i ∧ i ≤ 15) ∧ (A s).1 = (c : Int) ∧ bitB (A s).2 i = false) → (∀ s, (A' s).1 = (A s).1) → (∀ s i, bitB (A' s).2 i = (bitB (A s).2 i || decide ((s, i) ∈ pk))) → freN n A' c + pk.length = freN n A c
  | [], A, A', _, _, h1, h2 => by
    rw [freN_ext h1 fun s i _ => by rw [h2]; simp]
    rfl
  | (s, i) :: pk, A, A', hn, hp, h1, h2 => by
    obtain ⟨hs, hi, ho, hb⟩ := hp s i (List.mem_cons_self ..)
    rw [List.nodup_cons] at hn
    have ih := freN_sub (n := n) (c := c) (pk := pk) (A := updA A s ((A s).1, (A s).2 ||| BitVec.ofInt 32 1 <<< i)) (A' := A') hn.2 (fun t j hm => by
      obtain ⟨k1, k2, k3, k4⟩ := hp t j (List.mem_cons_of_mem _ hm)
      unfold updA
      by_cases e : t = s
      · subst e
        rw [if_pos rfl]
        refine ⟨k1, k2, k3, ?_⟩
        rw [bit_or _ _ _ (by omega), k4]
        have : ¬ j = i := fun e => hn.1 (e ▸ hm)
        simp [this]
      · rw [if_neg e]
        exact ⟨k1, k2, k3, k4⟩) (fun t => by
      rw [h1]
      unfold updA
      by_cases e : t = s
      · rw [if_pos e, e]
      · rw [if_neg e]) (fun t j => by
      rw [h2]
      unfold updA
      by_cases e : t = s
      · subst e
        rw [if_pos rfl, bit_or _ _ _ (by omega)]
        by_cases e2 : j = i <;> simp [e2]
      · rw [if_neg e]
        simp [e])
    have h3 : freN n (updA A s ((A s).1, (A s).2 ||| BitVec.ofInt 32 1 <<< i)) c + 1 = freN n A c := by
      unfold freN
      refine sum_one hs ?_ fun t ht => ?_
      · unfold updA
        rw [if_pos rfl, if_pos ho, if_pos ho]
        exact frL_or hi hb
      · unfold updA
        rw [if_neg ht]
    rw [List.length_cons]
    omega
theorem frL0 : (frL 0#32).length = 15 := by decide +kernel
end Go.Proofs.Ytpfojangcgffkaa

/- The law SegmentWhole: its walk. Own work. -/
namespace Go.Proofs.Ytpfojangcgffkaa
open Go.RowKit
set_option linter.unusedVariables false
set_option linter.unusedSimpArgs false
set_option maxRecDepth 100000
-- bodegaheap.Size: function 37
theorem Size_ok (n : Int) : FnP Try.prog 37 [Is (.int .i64 n)] (Is (.int .i64 (104 + 16 * (1 + n % 5)))) := by
  refine FnP.enter Try.func37 Try.ntmps37 rfl rfl ?_
  intro c hX
  refine JC_seq ?_
  refine JC_region ?_
  refine JL_1 rfl (op_assign rfl) ?_
  refine JL_nil ?_
  refine JQ_then (JC_seq ?_)
  refine JC_region ?_
  refine JL_1 rfl (op_move rfl) ?_
  refine JL_1 rfl (by first | ((refine op_call Try.call14 (PickH_ok _ _ ?_ ?_) ⟨evS, ⟨evS, trivial⟩⟩); all_goals (first | omega))) ?_
  refine JL_1 rfl (op_add (Ev.rfl' rfl) (Ev.rfl' rfl) wrapT) ?_
  refine JL_1 rfl (op_mul (Ev.rfl' rfl) (Ev.rfl' rfl) wrapT) ?_
  refine JL_1 rfl (op_add (Ev.rfl' rfl) (Ev.rfl' rfl) wrapT) ?_
  refine JL_1 rfl (op_assign rfl) ?_
  refine JL_nil ?_
  refine JQ_then (JC_ret ?_)
  refine JQ_ret1 Try.results37 rfl () (SubL.eq ?_) (List.nil_sublist _)
  rfl
theorem SizeN_ok (n : Int) : FnP Try.prog 37 [Is (.int .i64 n)] (Is (.int .i64 (96 + ((8 + 16 * (1 + (n % 5).toNat) : Nat) : Int)))) := by
  have h := Size_ok n
  rw [show (104 + 16 * (1 + n % 5)) = (96 + ((8 + 16 * (1 + (n % 5).toNat) : Nat) : Int)) by omega] at h
  exact h
def Own1 (n c i : Nat) (H : List Pg) : Prop := ∃ B A, Inv n 0 B A [] H ∧ Coh n B A ∧ (∀ s, s < n → (A s).2 = 0#32) ∧ (∀ s, s < n → (A s).1 = -1 ∨ (A s).1 = (c : Int)) ∧ unN n A + i = n
def Own2 (n c i : Nat) (tot : Nat) (H : List Pg) : Prop := ∃ B A, Inv n (i : Nat) B A [] H ∧ Coh n B A ∧ (∀ s, s < n → (A s).1 = (c : Int)) ∧ tot + freN n A c = 15 * n
theorem own1_new (n c : Nat) (hn : n ≤ 9) : Own1 n c 0 (newL (8 + 16 * n)) := by
  obtain ⟨h1, h2⟩ := new_inv n hn
  refine ⟨_, _, h1, h2, fun _ _ => rfl, fun _ _ => .inl rfl, ?_⟩
  unfold unN
  rw [sum_const (a := 1) fun s hs => if_pos rfl]
  omega
theorem own12 {n c : Nat} {H : List Pg} (h : Own1 n c n H) : Own2 n c 0 0 H := by
  obtain ⟨B, A, h1, h2, h3, h4, h5⟩ := h
  have h6 : ∀ s, s < n → (A s).1 = (c : Int) := fun s hs => by
    have := sum_zero (g := fun s => if (A s).1 = -1 then 1 else 0) (n := n) (by show unN n A = 0; omega) s hs
    rcases h4 s hs with e | e
    · simp only [e] at this; cases this
    · exact e
  refine ⟨B, A, h1, h2, h6, ?_⟩
  unfold freN
  rw [sum_const (a := 15) fun s hs => by rw [if_pos (h6 s hs), h3 s hs, frL0]]
  omega
theorem own_step {n c i : Nat} {H : List Pg} (h : Own1 n c i H) (hi : i < n) (hn : n ≤ 9) (hc : c < 6) : (sB H c (countN (104 + 16 * (n : Int))) = true → (mineW H c 1 (sV H c (countN (104 + 16 * (n : Int))))).l < (headW H c (sV H c (countN (104 + 16 * (n : Int))))).l) ∧ missV H (hdrL (104 + 16 * (n : Int))) = [] ∧
    ∃ s w1 w2, acqV H c 1 (104 + 16 * (n : Int)) = ([], [w1, w2], s, 0, true) ∧ ((0 ≤ w1.l ∧ w1.l ≤ 300) ∧ (0 ≤ w2.l ∧ w2.l ≤ 300)) ∧ Own1 n c (i + 1) (comP (comP H w1) w2) := by
  obtain ⟨B, A, h1, h2, h3, h4, h5⟩ := h
  obtain ⟨q1, q2, q⟩ := acq_step h1 h2 hn hc
  refine ⟨q1, q2, ?_⟩
  rcases q with ⟨k, _⟩ | ⟨s, w1, w2, hs, ho, e, l, k1, k2⟩
  · exfalso
    have : unN n A = 0 * n := by
      unfold unN
      exact sum_const fun s hs => if_neg (k s hs)
    omega
  · refine ⟨s, w1, w2, e, by omega, _, _, k1, k2, fun t ht => ?_, fun t ht => ?_, ?_⟩
    · unfold updA
      by_cases e : t = s
      · rw [if_pos e, ← e]; exact h3 t ht
      · rw [if_neg e]; exact h3 t ht
    · unfold updA
      by_cases e : t = s
      · rw [if_pos e]; exact .inr rfl
      · rw [if_neg e]; exact h4 t ht
    · have := un_step (o := (c : Int)) (u := (A s).2) hs ho (by omega)
      omega
def Half (n c i cnt tot : Nat) (pk : List (Nat × Nat)) (H : List Pg) : Prop := ∃ B A, Inv n ((i + 1 : Nat) : Int) B A pk H ∧ Coh n B A ∧ (∀ s, s < n → (A s).1 = (c : Int)) ∧ tot + cnt + freN n A c = 15 * n ∧ ∀ x, x ∈ pk → x.1 < n ∧ (1 ≤ x.2 ∧ x.2 ≤ 15) ∧ bitB (A x.1).2 x.2 = true
theorem Inv.up {n : Nat} {G G' : Int} {B : Nat → BitVec 32} {A : Nat → Int × BitVec 32} {D : List (Nat × Nat)} {H : List Pg} (h : Inv n G B A D H) (hG : G ≤ G') : Inv n G' B A D H :=
  ⟨h.len, h.ln, h.un, h.nd, h.hd, fun s i p a b c d => ⟨(h.dp s i p a b c d).1, by have := (h.dp s i p a b c d).2; omega⟩⟩
theorem own2_next {n c i tot : Nat} {H : List Pg} (h : Own2 n c i tot H) : Own2 n c (i + 1) tot H := by
  obtain ⟨B, A, h1, h2, h3, h4⟩ := h
  exact ⟨B, A, h1.up (by omega), h2, h3, h4⟩
theorem own2_step {n c i tot cnt : Nat} {H : List Pg} (h : Own2 n c i tot H) (hn : n ≤ 9) (hc : c < 6) (hi : i < 200) :
    ∃ pn nd R, nodeV H c = (pn, nd, true, 0) ∧ missV H ((ownV nd.sg (countN (104 + 16 * (n : Int)))).map lineV) = [] ∧ aloH H c cnt (ownV nd.sg (countN (104 + 16 * (n : Int)))) (ownV nd.sg (countN (104 + 16 * (n : Int)))) = R ∧ tot ≤ 15 * n ∧
      ((15 * n < tot + cnt ∧ R = errA 12) ∨ (∃ (pk : List (Nat × Nat)) (P W : List Pg), R = ([], P, W, 0, true) ∧ pk.length = cnt ∧ pk.Nodup ∧ P.length = cnt ∧ (∀ (j s k : Nat), pk[j]? = some (s, k) → ∃ p, P[j]? = some p ∧ p.l = 104 + 16 * (s : Int) + k ∧ lockB p = false ∧ kindV p.d0 = 0 ∧ genV p.d0 ≤ i) ∧ (∀ w, w ∈ W → 0 ≤ w.l ∧ w.l ≤ 300) ∧ Half n c i cnt tot pk (W.foldl comP H))) := by
  obtain ⟨B, A, h1, h2, h3, h4⟩ := h
  obtain ⟨pn, inc, hpn, hinc, hnode⟩ := h1.node hc
  refine ⟨pn, _, _, hnode, ?_, rfl, by omega, ?_⟩
  · rw [count_n hn]
    exact h1.hdr0 hn _
  · rw [count_n hn]
    rcases alo_step (cnt := cnt) h1 h2 hn hc (by omega) with ⟨q1, q2⟩ | ⟨q1, pk, W, k1, k2, k3, k4, k5, A', k6, k7, k8⟩
    · exact .inl ⟨by omega, q2⟩
    · refine .inr ⟨pk, _, W, k4, k1, k2, by rw [List.length_map, k1], fun j s k hj => ?_, k5, B, A', k8.up (by omega), ?_, fun s hs => (k6 s).trans (h3 s hs), ?_, ?_⟩
      · obtain ⟨a1, a2, a3, a4⟩ := k3 s k (List.mem_of_getElem? hj)
        obtain ⟨p, e1, e2, e3⟩ := h1.page (i := k) a1 hn a2.2
        refine ⟨p, by rw [List.getElem?_map, hj]; exact congrArg some e2, ?_, h1.un _ _ e1, ?_, (h1.dp s k p a1 a2.1 a2.2 e1).2⟩
        · rw [h1.ln _ _ e1]; omega
        · exact (h1.dp s k p a1 a2.1 a2.2 e1).1.2 (.inl a4)
      · refine ⟨fun d j hd => ?_, fun s hs => by rw [k6]; exact h2.ow s hs, fun s hs j hj => ?_⟩
        · rw [k6]; exact h2.bn d j hd
        · rw [k7] at hj
          rcases Bool.or_eq_true_iff.1 hj with hj | hj
          · exact h2.us s hs j hj
          · exact (k3 s j (of_decide_eq_true hj)).2.1
      · have := freN_sub (c := c) (A := A) (A' := A') k2 k3 k6 k7
        omega
      · rintro ⟨s, k⟩ hx
        obtain ⟨a1, a2, a3, a4⟩ := k3 s k hx
        exact ⟨a1, a2, by rw [k7]; simp [hx]⟩
theorem half_step {n c i cnt tot s k : Nat} {pk : List (Nat × Nat)} {H : List Pg} {p : Pg} {kind : Int} (h : Half n c i cnt tot ((s, k) :: pk) H) (hnd : (s, k) ∉ pk) (hl : p.l = 104 + 16 * (s : Int) + k) (hg : genV p.d0 ≤ i) (hi : i < 200) (hk : 1 ≤ kind ∧ kind ≤ 4) :
    Half n c i cnt tot pk (comP H (tagP p ⟨kind, genV p.d0 + 1, 0#32⟩)) := by
  obtain ⟨B, A, h1, h2, h3, h4, h5⟩ := h
  obtain ⟨a1, a2, a3⟩ := h5 _ (List.mem_cons_self ..)
  exact ⟨B, A, page_step h1 a1 a2 a3 hnd hl (by omega) (by omega) hk, h2, h3, h4, fun x hx => h5 x (List.mem_cons_of_mem _ hx)⟩
theorem half_end {n c i cnt tot : Nat} {H : List Pg} (h : Half n c i cnt tot [] H) : Own2 n c (i + 1) (tot + cnt) H := by
  obtain ⟨B, A, h1, h2, h3, h4, _⟩ := h
  exact ⟨B, A, h1, h2, h3, h4⟩
theorem half_seg {n c i cnt tot s k : Nat} {pk : List (Nat × Nat)} {H : List Pg} (h : Half n c i cnt tot ((s, k) :: pk) H) : s < n ∧ (1 ≤ k ∧ k ≤ 15) := by
  obtain ⟨B, A, _, _, _, _, h5⟩ := h
  exact ⟨(h5 _ (List.mem_cons_self ..)).1, (h5 _ (List.mem_cons_self ..)).2.1⟩
theorem half_len {n c i cnt tot : Nat} {pk : List (Nat × Nat)} {H : List Pg} (h : Half n c i cnt tot pk H) : H.length = 8 + 16 * n := by
  obtain ⟨B, A, h1, _⟩ := h
  exact h1.len
-- bodegalaw20.SegmentWhole: function 7
set_option maxHeartbeats 1000000 in
theorem SegmentWhole_ok (size client count : Int) : FnP Try.prog 7 [Is (.int .i64 size), Is (.int .i64 client), Is (.int .i64 count)] (Is (.bool true)) := by
  obtain ⟨n, hn0⟩ : ∃ n : Nat, 1 + (size % 5).toNat = n := ⟨_, rfl⟩
  have hsize := SizeN_ok size
  rw [hn0] at hsize
  have hn : 1 ≤ n ∧ n ≤ 5 := by omega
  obtain ⟨cl, hcl0⟩ : ∃ c : Nat, client % 6 = (c : Int) := ⟨(client % 6).toNat, by omega⟩
  have hc : cl < 6 := by omega
  obtain ⟨k0, hk0⟩ : ∃ k : Nat, count % 3 = (k : Int) := ⟨(count % 3).toNat, by omega⟩
  have hk0l : k0 < 3 := by omega
  have hlines : 96 + ((8 + 16 * n : Nat) : Int) = 104 + 16 * (n : Int) := by omega
  have hsz : sizeB (104 + 16 * (n : Int)) = true := by unfold sizeB; simp; omega
  have hcount : FnP Try.prog 29 [Is (.int .i64 (96 + ((8 + 16 * n : Nat) : Int)))] (Is (.int .i64 (n : Nat))) := by
    have h := CountN_ok (104 + 16 * (n : Int))
    rw [count_n (by omega)] at h
    rw [hlines]
    exact h
  clear hn0
  refine FnP.enter Try.func7 Try.ntmps7 rfl rfl ?_
  intro c hX
  refine JC_seq ?_
  refine JC_region ?_
  refine JL_1 rfl (op_assign rfl) ?_
  refine JL_nil ?_
  refine JQ_then (JC_seq ?_)
  refine JC_region ?_
  refine JL_1 rfl (op_move rfl) ?_
  refine JL_1 rfl (op_call Try.call37 (hsize) ⟨evS, trivial⟩) ?_
  (refine JL_s rfl (by first | ((refine op_callN Try.call36 (New_ok (8 + 16 * n) ?_) ⟨evS, trivial⟩); all_goals (first | omega))) ?_; intro i29)
  refine JL_1 rfl (op_assign rfl) ?_
  refine JL_nil ?_
  refine JQ_then (JC_seq ?_)
  obtain ⟨b, s0⟩ := i29
  dsimp only
  have hpick := PickH_ok client 6 (by omega) (by omega)
  rw [hcl0] at hpick
  refine JC_region ?_
  refine JL_1 rfl (op_move rfl) ?_
  refine JL_1 rfl (op_call Try.call14 (hpick) ⟨evS, ⟨evS, trivial⟩⟩) ?_
  refine JL_1 rfl (op_assign rfl) ?_
  refine JL_nil ?_
  refine JQ_then (JC_seq ?_)
  refine JC_region ?_
  refine JL_1 rfl (op_move rfl) ?_
  refine JL_1 rfl (by first | exact op_nilCheck (Ev.rfl' rfl) | exact op_nilRef (Ev.rfl' rfl)) ?_
  refine JL_1 rfl (by first | exact op_fieldPtr (k := 1) (Ev.rfl' rfl) rfl rfl rfl rfl | exact op_fieldRefN (k := 1) (Ev.rfl' rfl) rfl rfl rfl rfl nrmT) ?_
  refine JL_1 rfl (by first | exact op_loadRef (Ev.rfl' rfl) rfl rfl rfl | exact op_loadPtr (Ev.rfl' rfl) memT (by rfl) (by rfl) (by rfl)) ?_
  refine JL_1 rfl (op_call Try.call29 (hcount) ⟨evS, trivial⟩) ?_
  refine JL_1 rfl (op_assign rfl) ?_
  refine JL_nil ?_
  refine JQ_then (JC_seq (JC_seq ?_))
  refine JC_region ?_
  refine JL_1 rfl (op_assign rfl) ?_
  refine JL_nil ?_
  refine JQ_then (JC_block ?_)
  refine JC_loopP (fun z : Nat × List Pg => z.1 ≤ n ∧ Own1 n cl z.1 z.2 ∧ z.2.length = 8 + 16 * n) (fun z => [(2, Is (.int .i64 count)), (7, Is (.pointer (some ⟨b, 0, none⟩))), (8, Is (.int .i64 (cl : Nat))), (9, Is (.int .i64 (n : Nat))), (10, Is (.int .i64 (z.1 : Nat)))]) (fun z => [blk b 80 (heapC (slV (8 + 16 * n) s0) (96 + ((8 + 16 * n : Nat) : Int))), buf (slV (8 + 16 * n) s0) 25 tPg z.2]) (fun z => n - z.1) (0, newL (8 + 16 * n)) ⟨Nat.zero_le _, own1_new n cl (by omega), newL_len _⟩ esubT lessT ?_
  rintro ⟨i, H⟩ ⟨hi, hO, hHl⟩
  dsimp only at hi hO hHl ⊢
  refine JC_seq (JC_seq ?_)
  refine JC_region ?_
  refine JL_1 rfl (op_move rfl) ?_
  refine JL_1 rfl (op_move rfl) ?_
  refine JL_1 rfl (op_lss (Ev.rfl' rfl) (Ev.rfl' rfl)) ?_
  refine JL_nil ?_
  refine JQ_then ?_
  refine JC_cond (Ev.rfl' rfl) (fun h5 => ?_) (fun h5 => ?_)
  · have hlt : i < n := by have := of_decide_eq_true h5; omega
    clear h5
    obtain ⟨q1, q2, s, w1, w2, e, hw, hO'⟩ := own_step hO hlt (by omega) hc
    have hacq := AcquireW_ok H cl 1 (104 + 16 * (n : Int)) hc (by decide) hsz (fun _ => by rw [q2]; exact Nat.zero_le _) q1 _ e
    rw [← hlines] at hacq
    refine JC_skip (JQ_then (JC_seq (JC_block (JC_seq ?_))))
    refine JC_dr rfl (by kernel_rfl) ?_
    refine JD_stretch 10 (by kernel_rfl) ?_
    refine JW_1 (op_move rfl) ?_
    refine JW_1 (op_move rfl) ?_
    refine JW_1 (by first | exact op_nilCheck (Ev.rfl' rfl) | exact op_nilRef (Ev.rfl' rfl)) ?_
    refine JW_1 (by first | exact op_fieldPtr (k := 1) (Ev.rfl' rfl) rfl rfl rfl rfl | exact op_fieldRefN (k := 1) (Ev.rfl' rfl) rfl rfl rfl rfl nrmT) ?_
    refine JW_1 (by first | exact op_loadRef (Ev.rfl' rfl) rfl rfl rfl | exact op_loadPtr (Ev.rfl' rfl) memT (by rfl) (by rfl) (by rfl)) ?_
    refine JW_1 (op_buildN (qs := [(0, _), (1, _), (2, _), (3, _)]) rfl rfl rfl rfl ⟨⟨rfl, _, (Ev.rfl' rfl), cellsT⟩, ⟨⟨rfl, _, (Ev.rfl' rfl), cellsT⟩, ⟨⟨rfl, _, (Ev.rfl' rfl), cellsT⟩, ⟨⟨rfl, _, (Ev.rfl' rfl), cellsT⟩, trivial⟩⟩⟩⟩ (by rfl) nrmT) ?_
    refine JW_1 (op_move rfl) ?_
    refine JW_1 (by first | exact op_nilCheck (Ev.rfl' rfl) | exact op_nilRef (Ev.rfl' rfl)) ?_
    refine JW_1 (by first | exact op_fieldPtr (k := 0) (Ev.rfl' rfl) rfl rfl rfl rfl | exact op_fieldRefN (k := 0) (Ev.rfl' rfl) rfl rfl rfl rfl nrmT) ?_
    refine JW_1 (by first | exact op_loadRef (Ev.rfl' rfl) rfl rfl rfl | exact op_loadPtr (Ev.rfl' rfl) memT (by rfl) (by rfl) (by rfl)) ?_
    refine ⟨rfl, ?_⟩
    (refine JD_s (by kernel_rfl) rfl rfl (op_callLO (by (try simp only [List.nil_append]); exact lendT) Try.call38 (hacq) ⟨evS, ⟨evS, trivial⟩⟩ (fun _ => pure_r1) (fun _ => ⟨pureI_buf pure_pg, trivial⟩)) ?_; intro i53)
    refine JD_stretch 11 (by kernel_rfl) ?_
    refine JW_1 (op_move rfl) ?_
    refine JW_1 (op_extract (Ev.rfl' rfl) rfl) ?_
    refine JW_1 (op_extract (Ev.rfl' rfl) rfl) ?_
    refine JW_1 (op_extract (Ev.rfl' rfl) rfl) ?_
    refine JW_1 (op_extract (Ev.rfl' rfl) rfl) ?_
    refine JW_1 (op_extract (Ev.rfl' rfl) rfl) ?_
    refine JW_1 (op_assign rfl) ?_
    refine JW_1 (op_assign rfl) ?_
    refine JW_1 (op_assign rfl) ?_
    refine JW_1 (op_assign rfl) ?_
    refine JW_1 (op_assign rfl) ?_
    refine ⟨rfl, ?_⟩
    refine JD_end ?_
    refine JQ_then (JC_seq (JC_seq ?_))
    refine JC_region ?_
    refine JL_1 rfl (op_move rfl) ?_
    refine JL_1 rfl (op_not (Ev.rfl' rfl)) ?_
    refine JL_1 rfl (op_move rfl) ?_
    (first | refine JL_i0 rfl rfl rfl (fun hg => (by have hg0 := hg; (try simp at hg); first | exact op_moveE (Ev.sub rfl (SubL.iteT (by first | assumption | (simp; done) | (simp; omega) | (simp_all; done)) SubL.rfl')) | exact op_moveE (Ev.rfl' rfl))) ?_ | refine JL_i rfl rfl rfl (fun hp hg => (by have hpg := Bool.and_eq_true_iff.2 ⟨hp, hg⟩; have hg0 := hg; (try simp at hg); first | exact op_moveE (Ev.sub rfl (SubL.iteT (by first | assumption | (simp; done) | (simp; omega) | (simp_all; done)) SubL.rfl')) | exact op_moveE (Ev.rfl' rfl))) ?_)
    (first | refine JL_i0 rfl rfl rfl (fun hg => (by have hg0 := hg; (try simp at hg); exact op_neq evG evG)) ?_ | refine JL_i rfl rfl rfl (fun hp hg => (by have hpg := Bool.and_eq_true_iff.2 ⟨hp, hg⟩; have hg0 := hg; (try simp at hg); exact op_neq evG evG)) ?_)
    refine JL_1 rfl (op_or (Ev.rfl' rfl) rfl (fun h => by first | exact SubL.rfl' | exact SubL.iteT (by first | (rw [h]; rfl) | (simp_all; done)) SubL.rfl')) ?_
    refine JL_nil ?_
    refine JQ_then ?_
    refine JC_cond (Ev.rfl' rfl) (fun h8 => ?_) (fun h8 => ?_)
    · exact absurd h8 (by simp)
    clear h8
    refine JC_freeze hX (v := slV 2 i53) replT ?_
    have hcom := Commit_ok b (8 + 16 * n) s0 (96 + ((8 + 16 * n : Nat) : Int)) H [w1, w2] hHl (by omega) (fun w hw' => by
      rcases List.mem_cons.1 hw' with h | h
      · subst h; omega
      · rcases List.mem_cons.1 h with h | h
        · subst h; omega
        · cases h)
    refine JC_skip (JQ_then ?_)
    refine JC_region ?_
    refine JL_1 rfl (op_move rfl) ?_
    refine JL_1 rfl (op_move rfl) ?_
    (refine JL_s rfl (op_callT2 drop1T drop1T Try.call39 (hcom) ⟨evS, ⟨evS, trivial⟩⟩) ?_; intro i67)
    refine JL_nil ?_
    refine JQ_block (JQ_then ?_)
    refine JC_region ?_
    refine JL_1 rfl (op_move rfl) ?_
    refine JL_1 rfl (op_add (Ev.rfl' rfl) (Ev.rfl' rfl) wrapT) ?_
    refine JL_1 rfl (op_assign rfl) ?_
    refine JL_nil ?_
    exact JQ_roundP (i + 1, comP (comP H w1) w2) ⟨by dsimp only; omega, hO', by dsimp only; rw [comP_len, comP_len, hHl]⟩ (by dsimp only; omega) esubT lessT
  have hke : i = n := by have := of_decide_eq_false h5; omega
  subst hke
  clear h5
  refine JC_exit (JQ_then_exit (JQ_then_exit (JQ_hit (JQ_then (JC_seq ?_)))))
  refine JC_region ?_
  refine JL_1 rfl (op_assign rfl) ?_
  refine JL_nil ?_
  refine JQ_then (JC_seq ?_)
  have hpick := PickH_ok count 3 (by omega) (by omega)
  rw [hk0] at hpick
  refine JC_region ?_
  refine JL_1 rfl (op_move rfl) ?_
  refine JL_1 rfl (op_call Try.call14 (hpick) ⟨evS, ⟨evS, trivial⟩⟩) ?_
  refine JL_1 rfl (op_add (Ev.rfl' rfl) (Ev.rfl' rfl) wrapT) ?_
  refine JL_1 rfl (op_assign rfl) ?_
  refine JL_nil ?_
  refine JQ_then (JC_seq (JC_seq ?_))
  refine JC_region ?_
  refine JL_1 rfl (op_assign rfl) ?_
  refine JL_nil ?_
  refine JQ_then (JC_block ?_)
  refine JC_loopP (fun z : (Nat × Nat × Nat) × List Pg => z.1.1 ≤ 200 ∧ (1 ≤ z.1.2.2 ∧ z.1.2.2 ≤ 3) ∧ z.1.1 + z.1.2.2 ≤ z.1.2.1 + 3 ∧ Own2 i cl z.1.1 z.1.2.1 z.2 ∧ z.2.length = 8 + 16 * i) (fun z => [(7, Is (.pointer (some ⟨b, 0, none⟩))), (8, Is (.int .i64 (cl : Nat))), (9, Is (.int .i64 (i : Nat))), (16, Is (.int .i64 (z.1.2.1 : Nat))), (17, Is (.int .i64 (z.1.2.2 : Nat))), (18, Is (.int .i64 (z.1.1 : Nat)))]) (fun z => [blk b 80 (heapC (slV (8 + 16 * i) s0) (96 + ((8 + 16 * i : Nat) : Int))), buf (slV (8 + 16 * i) s0) 25 tPg z.2]) (fun z => 200 - z.1.1) ((0, 0, 1 + k0), H) ⟨by dsimp only; omega, by dsimp only; omega, by dsimp only; omega, own12 hO, hHl⟩ esubT lessT ?_
  rintro ⟨⟨m, tot, k⟩, H⟩ ⟨hm, hk, hmk, hO, hHl⟩
  dsimp only at hm hk hmk hO hHl ⊢
  refine JC_seq (JC_seq ?_)
  refine JC_region ?_
  refine JL_1 rfl (op_move rfl) ?_
  refine JL_1 rfl (op_lss (Ev.rfl' rfl) (Ev.rfl' rfl)) ?_
  refine JL_nil ?_
  refine JQ_then ?_
  refine JC_cond (Ev.rfl' rfl) (fun h14 => ?_) (fun h14 => ?_)
  · have hlt : m < 200 := by have := of_decide_eq_true h14; omega
    clear h14
    obtain ⟨pn, nd, R, e1, e2, e3, htl, e4⟩ := own2_step (cnt := k) hO (by omega) hc hlt
    have halo := AllocateW_ok H cl k (104 + 16 * (i : Int)) pn nd R hc hsz (by omega) e1 e2 e3
    rw [← hlines] at halo
    refine JC_skip (JQ_then (JC_seq (JC_block (JC_seq ?_))))
    refine JC_dr rfl (by kernel_rfl) ?_
    refine JD_stretch 11 (by kernel_rfl) ?_
    refine JW_1 (op_move rfl) ?_
    refine JW_1 (op_move rfl) ?_
    refine JW_1 (by first | exact op_nilCheck (Ev.rfl' rfl) | exact op_nilRef (Ev.rfl' rfl)) ?_
    refine JW_1 (by first | exact op_fieldPtr (k := 1) (Ev.rfl' rfl) rfl rfl rfl rfl | exact op_fieldRefN (k := 1) (Ev.rfl' rfl) rfl rfl rfl rfl nrmT) ?_
    refine JW_1 (by first | exact op_loadRef (Ev.rfl' rfl) rfl rfl rfl | exact op_loadPtr (Ev.rfl' rfl) memT (by rfl) (by rfl) (by rfl)) ?_
    refine JW_1 (op_move rfl) ?_
    refine JW_1 (op_buildN (qs := [(0, _), (1, _), (2, _)]) rfl rfl rfl rfl ⟨⟨rfl, _, (Ev.rfl' rfl), cellsT⟩, ⟨⟨rfl, _, (Ev.rfl' rfl), cellsT⟩, ⟨⟨rfl, _, (Ev.rfl' rfl), cellsT⟩, trivial⟩⟩⟩ (by rfl) nrmT) ?_
    refine JW_1 (op_move rfl) ?_
    refine JW_1 (by first | exact op_nilCheck (Ev.rfl' rfl) | exact op_nilRef (Ev.rfl' rfl)) ?_
    refine JW_1 (by first | exact op_fieldPtr (k := 0) (Ev.rfl' rfl) rfl rfl rfl rfl | exact op_fieldRefN (k := 0) (Ev.rfl' rfl) rfl rfl rfl rfl nrmT) ?_
    refine JW_1 (by first | exact op_loadRef (Ev.rfl' rfl) rfl rfl rfl | exact op_loadPtr (Ev.rfl' rfl) memT (by rfl) (by rfl) (by rfl)) ?_
    refine ⟨rfl, ?_⟩
    (refine JD_s (by kernel_rfl) rfl rfl (op_callLO (by (try simp only [List.nil_append]); exact lendT) Try.call40 (halo) ⟨evS, ⟨evS, trivial⟩⟩ (fun _ => pure_r1) (fun _ => ⟨pureI_buf pure_pg, pureI_buf pure_pg, trivial⟩)) ?_; intro i87)
    refine JD_stretch 11 (by kernel_rfl) ?_
    refine JW_1 (op_move rfl) ?_
    refine JW_1 (op_extract (Ev.rfl' rfl) rfl) ?_
    refine JW_1 (op_extract (Ev.rfl' rfl) rfl) ?_
    refine JW_1 (op_extract (Ev.rfl' rfl) rfl) ?_
    refine JW_1 (op_extract (Ev.rfl' rfl) rfl) ?_
    refine JW_1 (op_extract (Ev.rfl' rfl) rfl) ?_
    refine JW_1 (op_assign rfl) ?_
    refine JW_1 (op_assign rfl) ?_
    refine JW_1 (op_assign rfl) ?_
    refine JW_1 (op_assign rfl) ?_
    refine JW_1 (op_assign rfl) ?_
    refine ⟨rfl, ?_⟩
    refine JD_end ?_
    refine JQ_then (JC_seq (JC_seq ?_))
    obtain ⟨j1, j2⟩ := i87
    dsimp only
    refine JC_region ?_
    refine JL_1 rfl (op_move rfl) ?_
    refine JL_1 rfl (op_move rfl) ?_
    (first | refine JL_i0 rfl rfl rfl (fun hg => (by have hg0 := hg; (try simp at hg); first | exact op_moveE (Ev.sub rfl (SubL.iteT (by first | assumption | (simp; done) | (simp; omega) | (simp_all; done)) SubL.rfl')) | exact op_moveE (Ev.rfl' rfl))) ?_ | refine JL_i rfl rfl rfl (fun hp hg => (by have hpg := Bool.and_eq_true_iff.2 ⟨hp, hg⟩; have hg0 := hg; (try simp at hg); first | exact op_moveE (Ev.sub rfl (SubL.iteT (by first | assumption | (simp; done) | (simp; omega) | (simp_all; done)) SubL.rfl')) | exact op_moveE (Ev.rfl' rfl))) ?_)
    (first | refine JL_i0 rfl rfl rfl (fun hg => (by have hg0 := hg; (try simp at hg); exact op_eql evG evG)) ?_ | refine JL_i rfl rfl rfl (fun hp hg => (by have hpg := Bool.and_eq_true_iff.2 ⟨hp, hg⟩; have hg0 := hg; (try simp at hg); exact op_eql evG evG)) ?_)
    refine JL_1 rfl (op_and (Ev.rfl' rfl) rfl (fun h => by first | exact SubL.rfl' | exact SubL.iteT (by first | (rw [h]; rfl) | (simp_all; done)) SubL.rfl')) ?_
    refine JL_1 rfl (op_move rfl) ?_
    (first | refine JL_i0 rfl rfl rfl (fun hg => (by have hg0 := hg; (try simp at hg); first | exact op_moveE (Ev.sub rfl (SubL.iteT (by first | assumption | (simp; done) | (simp; omega) | (simp_all; done)) SubL.rfl')) | exact op_moveE (Ev.rfl' rfl))) ?_ | refine JL_i rfl rfl rfl (fun hp hg => (by have hpg := Bool.and_eq_true_iff.2 ⟨hp, hg⟩; have hg0 := hg; (try simp at hg); first | exact op_moveE (Ev.sub rfl (SubL.iteT (by first | assumption | (simp; done) | (simp; omega) | (simp_all; done)) SubL.rfl')) | exact op_moveE (Ev.rfl' rfl))) ?_)
    (first | refine JL_i0 rfl rfl rfl (fun hg => (by have hg0 := hg; (try simp at hg); exact op_gtr evG evG)) ?_ | refine JL_i rfl rfl rfl (fun hp hg => (by have hpg := Bool.and_eq_true_iff.2 ⟨hp, hg⟩; have hg0 := hg; (try simp at hg); exact op_gtr evG evG)) ?_)
    refine JL_1 rfl (op_and (Ev.rfl' rfl) rfl (fun h => by first | exact SubL.rfl' | exact SubL.iteT (by first | (rw [h]; rfl) | (simp_all; done)) SubL.rfl')) ?_
    refine JL_nil ?_
    refine JQ_then ?_
    refine JC_cond (Ev.rfl' rfl) (fun h17 => ?_) (fun h17 => ?_)
    · have g : 1 < k := by simp at h17; omega
      clear h17
      refine JC_seq ?_
      refine JC_region ?_
      refine JL_1 rfl (op_move rfl) ?_
      refine JL_1 rfl (op_sub (Ev.rfl' rfl) (Ev.rfl' rfl) wrapT) ?_
      refine JL_1 rfl (op_assign rfl) ?_
      refine JL_nil ?_
      refine JQ_then (JC_exit (JQ_then_exit (JQ_hit (JQ_then ?_))))
      refine JC_region ?_
      refine JL_1 rfl (op_move rfl) ?_
      refine JL_1 rfl (op_add (Ev.rfl' rfl) (Ev.rfl' rfl) wrapT) ?_
      refine JL_1 rfl (op_assign rfl) ?_
      refine JL_nil ?_
      first
        | (have := g; exact JQ_roundP ((m + 1, tot, k - 1), H) ⟨by dsimp only; omega, by dsimp only; omega, by dsimp only; omega, own2_next hO, hHl⟩ (by dsimp only; omega) ⟨⟨_, rfl, SubL.rfl'⟩, ⟨_, rfl, SubL.rfl'⟩, ⟨_, rfl, SubL.rfl'⟩, ⟨_, rfl, SubL.rfl'⟩, ⟨_, rfl, SubL.eq (ieq (by dsimp only; omega))⟩, ⟨_, rfl, SubL.rfl'⟩, trivial⟩ lessT)
        | exact JQ_roundP ((m + 1, tot + k, k), H') ⟨by dsimp only; omega, by dsimp only; omega, by dsimp only; omega, half_end hF, by dsimp only; exact half_len hF⟩ (by dsimp only; omega) esubT lessT
    refine JC_skip (JQ_then (JC_seq (JC_seq ?_)))
    refine JC_region ?_
    refine JL_1 rfl (op_move rfl) ?_
    refine JL_1 rfl (op_move rfl) ?_
    (first | refine JL_i0 rfl rfl rfl (fun hg => (by have hg0 := hg; (try simp at hg); first | exact op_moveE (Ev.sub rfl (SubL.iteT (by first | assumption | (simp; done) | (simp; omega) | (simp_all; done)) SubL.rfl')) | exact op_moveE (Ev.rfl' rfl))) ?_ | refine JL_i rfl rfl rfl (fun hp hg => (by have hpg := Bool.and_eq_true_iff.2 ⟨hp, hg⟩; have hg0 := hg; (try simp at hg); first | exact op_moveE (Ev.sub rfl (SubL.iteT (by first | assumption | (simp; done) | (simp; omega) | (simp_all; done)) SubL.rfl')) | exact op_moveE (Ev.rfl' rfl))) ?_)
    (first | refine JL_i0 rfl rfl rfl (fun hg => (by have hg0 := hg; (try simp at hg); exact op_eql evG evG)) ?_ | refine JL_i rfl rfl rfl (fun hp hg => (by have hpg := Bool.and_eq_true_iff.2 ⟨hp, hg⟩; have hg0 := hg; (try simp at hg); exact op_eql evG evG)) ?_)
    refine JL_1 rfl (op_and (Ev.rfl' rfl) rfl (fun h => by first | exact SubL.rfl' | exact SubL.iteT (by first | (rw [h]; rfl) | (simp_all; done)) SubL.rfl')) ?_
    refine JL_nil ?_
    refine JQ_then ?_
    refine JC_cond (Ev.rfl' rfl) (fun h19 => ?_) (fun h19 => ?_)
    · have hk2 : ¬ (k : Int) > 1 := fun e => by rw [h19, decide_eq_true e] at h17; cases h17
      have hk1 : k = 1 := by omega
      rcases e4 with ⟨q1, q2⟩ | ⟨pk, P, W, q1, _⟩
      rotate_left
      · exfalso
        rw [q1] at h19
        simp at h19
      have htot : tot = 15 * i := by omega
      clear h17 h19
      refine JC_seq ?_
      refine JC_region ?_
      refine JL_1 rfl (op_call Try.call19 (awake_ok) trivial) ?_
      refine JL_1 rfl (op_move rfl) ?_
      (first | refine JL_i0 rfl rfl rfl (fun hg => (by have hg0 := hg; (try simp at hg); first | exact op_moveE (Ev.sub rfl (SubL.iteT (by first | assumption | (simp; done) | (simp; omega) | (simp_all; done)) SubL.rfl')) | exact op_moveE (Ev.rfl' rfl))) ?_ | refine JL_i rfl rfl rfl (fun hp hg => (by have hpg := Bool.and_eq_true_iff.2 ⟨hp, hg⟩; have hg0 := hg; (try simp at hg); first | exact op_moveE (Ev.sub rfl (SubL.iteT (by first | assumption | (simp; done) | (simp; omega) | (simp_all; done)) SubL.rfl')) | exact op_moveE (Ev.rfl' rfl))) ?_)
      (first | refine JL_i0 rfl rfl rfl (fun hg => (by have hg0 := hg; (try simp at hg); first | exact op_moveE (Ev.sub rfl (SubL.iteT (by first | assumption | (simp; done) | (simp; omega) | (simp_all; done)) SubL.rfl')) | exact op_moveE (Ev.rfl' rfl))) ?_ | refine JL_i rfl rfl rfl (fun hp hg => (by have hpg := Bool.and_eq_true_iff.2 ⟨hp, hg⟩; have hg0 := hg; (try simp at hg); first | exact op_moveE (Ev.sub rfl (SubL.iteT (by first | assumption | (simp; done) | (simp; omega) | (simp_all; done)) SubL.rfl')) | exact op_moveE (Ev.rfl' rfl))) ?_)
      (first | refine JL_i0 rfl rfl rfl (fun hg => (by have hg0 := hg; (try simp at hg); exact op_mul evG evG wrapT)) ?_ | refine JL_i rfl rfl rfl (fun hp hg => (by have hpg := Bool.and_eq_true_iff.2 ⟨hp, hg⟩; have hg0 := hg; (try simp at hg); exact op_mul evG evG wrapT)) ?_)
      (first | refine JL_i0 rfl rfl rfl (fun hg => (by have hg0 := hg; (try simp at hg); exact op_eql evG evG)) ?_ | refine JL_i rfl rfl rfl (fun hp hg => (by have hpg := Bool.and_eq_true_iff.2 ⟨hp, hg⟩; have hg0 := hg; (try simp at hg); exact op_eql evG evG)) ?_)
      refine JL_1 rfl (op_and (Ev.rfl' rfl) rfl (fun h => by first | exact SubL.rfl' | exact SubL.iteT (by first | (rw [h]; rfl) | (simp_all; done)) SubL.rfl')) ?_
      refine JL_1 rfl (op_assign rfl) ?_
      refine JL_nil ?_
      refine JQ_then (JC_ret (JQ_then_ret (JQ_block_ret (JQ_then_ret (JQ_then_ret (JQ_block_ret (JQ_then_ret ?_)))))))
      refine JQ_ret1 Try.results7 rfl () (SubL.eq ?_) (List.nil_sublist _)
      have e : ((tot : Int) == 15 * (i : Int)) = true := by rw [htot]; simp
      rw [e]; rfl
    rcases e4 with ⟨q1, q2⟩ | ⟨pk, P, W, q1, p1, p2, p3, p4, p5, hF⟩
    · exfalso
      rw [q2] at h19
      simp at h19
    subst q1
    dsimp only
    clear h17 h19
    refine JC_skip (JQ_then (JC_seq (JC_seq ?_)))
    refine JC_region ?_
    refine JL_1 rfl (op_move rfl) ?_
    refine JL_1 rfl (op_not (Ev.rfl' rfl)) ?_
    refine JL_1 rfl (op_move rfl) ?_
    (first | refine JL_i0 rfl rfl rfl (fun hg => (by have hg0 := hg; (try simp at hg); first | exact op_moveE (Ev.sub rfl (SubL.iteT (by first | assumption | (simp; done) | (simp; omega) | (simp_all; done)) SubL.rfl')) | exact op_moveE (Ev.rfl' rfl))) ?_ | refine JL_i rfl rfl rfl (fun hp hg => (by have hpg := Bool.and_eq_true_iff.2 ⟨hp, hg⟩; have hg0 := hg; (try simp at hg); first | exact op_moveE (Ev.sub rfl (SubL.iteT (by first | assumption | (simp; done) | (simp; omega) | (simp_all; done)) SubL.rfl')) | exact op_moveE (Ev.rfl' rfl))) ?_)
    (first | refine JL_i0 rfl rfl rfl (fun hg => (by have hg0 := hg; (try simp at hg); exact op_neq evG evG)) ?_ | refine JL_i rfl rfl rfl (fun hp hg => (by have hpg := Bool.and_eq_true_iff.2 ⟨hp, hg⟩; have hg0 := hg; (try simp at hg); exact op_neq evG evG)) ?_)
    refine JL_1 rfl (op_or (Ev.rfl' rfl) rfl (fun h => by first | exact SubL.rfl' | exact SubL.iteT (by first | (rw [h]; rfl) | (simp_all; done)) SubL.rfl')) ?_
    refine JL_1 rfl (op_move rfl) ?_
    (first | refine JL_i0 rfl rfl rfl (fun hg => (by have hg0 := hg; (try simp at hg); first | exact op_moveE (Ev.sub rfl (SubL.iteT (by first | assumption | (simp; done) | (simp; omega) | (simp_all; done)) SubL.rfl')) | exact op_moveE (Ev.rfl' rfl))) ?_ | refine JL_i rfl rfl rfl (fun hp hg => (by have hpg := Bool.and_eq_true_iff.2 ⟨hp, hg⟩; have hg0 := hg; (try simp at hg); first | exact op_moveE (Ev.sub rfl (SubL.iteT (by first | assumption | (simp; done) | (simp; omega) | (simp_all; done)) SubL.rfl')) | exact op_moveE (Ev.rfl' rfl))) ?_)
    (first | refine JL_i0 rfl rfl rfl (fun hg => (by have hg0 := hg; (try simp at hg); first | exact op_len evG rfl | exact op_lenLit evG rfl)) ?_ | refine JL_i rfl rfl rfl (fun hp hg => (by have hpg := Bool.and_eq_true_iff.2 ⟨hp, hg⟩; have hg0 := hg; (try simp at hg); first | exact op_len evG rfl | exact op_lenLit evG rfl)) ?_)
    (first | refine JL_i0 rfl rfl rfl (fun hg => (by have hg0 := hg; (try simp at hg); first | exact op_moveE (Ev.sub rfl (SubL.iteT (by first | assumption | (simp; done) | (simp; omega) | (simp_all; done)) SubL.rfl')) | exact op_moveE (Ev.rfl' rfl))) ?_ | refine JL_i rfl rfl rfl (fun hp hg => (by have hpg := Bool.and_eq_true_iff.2 ⟨hp, hg⟩; have hg0 := hg; (try simp at hg); first | exact op_moveE (Ev.sub rfl (SubL.iteT (by first | assumption | (simp; done) | (simp; omega) | (simp_all; done)) SubL.rfl')) | exact op_moveE (Ev.rfl' rfl))) ?_)
    (first | refine JL_i0 rfl rfl rfl (fun hg => (by have hg0 := hg; (try simp at hg); exact op_neq evG evG)) ?_ | refine JL_i rfl rfl rfl (fun hp hg => (by have hpg := Bool.and_eq_true_iff.2 ⟨hp, hg⟩; have hg0 := hg; (try simp at hg); exact op_neq evG evG)) ?_)
    refine JL_1 rfl (op_or (Ev.rfl' rfl) rfl (fun h => by first | exact SubL.rfl' | exact SubL.iteT (by first | (rw [h]; rfl) | (simp_all; done)) SubL.rfl')) ?_
    refine JL_nil ?_
    refine JQ_then ?_
    refine JC_cond (Ev.rfl' rfl) (fun h21 => ?_) (fun h21 => ?_)
    · exact absurd h21 (by simp; omega)
    clear h21
    refine JC_freeze hX (v := slV P.length j1) replT ?_
    refine JC_freeze hX (v := slV W.length j2) replT ?_
    have hcom := Commit_ok b (8 + 16 * i) s0 (96 + ((8 + 16 * i : Nat) : Int)) H W hHl (by omega) (fun w hw => by have := p5 w hw; omega)
    refine JC_skip (JQ_then (JC_seq ?_))
    refine JC_region ?_
    refine JL_1 rfl (op_move rfl) ?_
    refine JL_1 rfl (op_move rfl) ?_
    (refine JL_s rfl (op_callT2 drop1T drop1T Try.call39 (hcom) ⟨evS, ⟨evS, trivial⟩⟩) ?_; intro i130)
    refine JL_nil ?_
    refine JQ_then (JC_seq (JC_seq ?_))
    refine JC_set 20 (IsSl tPg P) rfl (SubL.fact memT) ?_
    refine JC_region ?_
    refine JL_1 rfl (op_assign rfl) ?_
    refine JL_nil ?_
    refine JQ_then (JC_block ?_)
    refine JC_loopP (fun z : Nat × List Pg => z.1 ≤ k ∧ Half i cl m k tot (pk.drop z.1) z.2) (fun z => [(7, Is (.pointer (some ⟨b, 0, none⟩))), (8, Is (.int .i64 (cl : Nat))), (9, Is (.int .i64 (i : Nat))), (16, Is (.int .i64 (tot : Nat))), (17, Is (.int .i64 (k : Nat))), (18, Is (.int .i64 (m : Nat))), (20, IsSl tPg P), (24, Is (.int .i64 (z.1 : Nat)))]) (fun z => [blk b 80 (heapC (slV (8 + 16 * i) s0) (96 + ((8 + 16 * i : Nat) : Int))), buf (slV (8 + 16 * i) s0) 25 tPg z.2]) (fun z => k - z.1) (0, W.foldl comP H) ⟨Nat.zero_le _, hF⟩ esubT lessT ?_
    rintro ⟨j, H'⟩ ⟨hj, hF⟩
    dsimp only at hj hF ⊢
    refine JC_seq (JC_seq ?_)
    refine JC_region ?_
    refine JL_1 rfl (op_move rfl) ?_
    refine JL_1 rfl (op_move rfl) ?_
    refine JL_1 rfl (by first | exact op_len (Ev.rfl' rfl) rfl | exact op_lenLit (Ev.rfl' rfl) rfl) ?_
    refine JL_1 rfl (op_lss (Ev.rfl' rfl) (Ev.rfl' rfl)) ?_
    refine JL_nil ?_
    refine JQ_then ?_
    refine JC_cond (Ev.rfl' rfl) (fun h25 => ?_) (fun h25 => ?_)
    · have hlt2 : j < k := by have := of_decide_eq_true h25; omega
      clear h25
      obtain ⟨x, hx⟩ : ∃ x, pk[j]? = some x := ⟨pk[j], List.getElem?_eq_getElem (by omega)⟩
      obtain ⟨s, y⟩ := x
      rw [drop_at hx] at hF
      obtain ⟨z, hz, z1, z2, z3, z4⟩ := p4 j s y hx
      obtain ⟨y1, y2⟩ := half_seg hF
      have hnot : (s, y) ∉ pk.drop (j + 1) := fun hm' => by
        have := (List.nodup_cons.1 ((drop_at hx) ▸ (List.drop_sublist j pk).nodup p2)).1
        exact this hm'
      have hF' := half_step (kind := 4) hF hnot z1 z4 hlt (by decide)
      have hal := AllocateP_ok z 4 0#32 (by decide)
      rw [all_ok (by omega) z2 z3 (by omega)] at hal
      refine JC_skip (JQ_then (JC_seq (JC_block (JC_seq ?_))))
      refine JC_region ?_
      refine JL_1 rfl (op_move rfl) ?_
      refine JL_1 rfl (op_move rfl) ?_
      refine JL_1 rfl (by first | exact op_index (j := _) (Ev.rfl' rfl) (Ev.rfl' rfl) rfl rfl (by first | rfl | omega) hz | exact op_index (j := _) (Ev.rfl' rfl) (Ev.rfl' rfl) rfl rfl (by first | rfl | omega) (by assumption)) ?_
      refine JL_1 rfl (by first | exact op_loadRefsN (n := 9) (Ev.rfl' rfl) rfl rfl rfl (by rfl) nrmT | exact op_loadPtrsN (n := 9) (Ev.rfl' rfl) memT (by rfl) (by rfl) (by rfl) (by rfl) nrmT) ?_
      refine JL_1 rfl (op_call Try.call41 (hal) ⟨evS, ⟨evS, ⟨evS, trivial⟩⟩⟩) ?_
      refine JL_1 rfl (op_move rfl) ?_
      refine JL_1 rfl (op_extract (Ev.rfl' rfl) rfl) ?_
      refine JL_1 rfl (op_extract (Ev.rfl' rfl) rfl) ?_
      (refine JL_n rfl (op_allocN rfl nrmT rfl) ?_; intro i25)
      refine JL_s0 (op_storeN (Ev.rfl' rfl) (Ev.rfl' rfl) cellsT replT nrmT (by rfl) (by rfl) (by rfl)) ?_
      refine JL_1 rfl (op_assign rfl) ?_
      refine JL_nil ?_
      refine JQ_then (JC_seq (JC_seq ?_))
      refine JC_region ?_
      refine JL_1 rfl (op_move rfl) ?_
      refine JL_1 rfl (op_neq (Ev.rfl' rfl) (Ev.rfl' rfl)) ?_
      refine JL_nil ?_
      refine JQ_then ?_
      refine JC_cond (Ev.rfl' rfl) (fun h28 => ?_) (fun h28 => ?_)
      · exact absurd h28 (by simp)
      clear h28
      have hcom := Commit_ok b (8 + 16 * i) s0 (96 + ((8 + 16 * i : Nat) : Int)) H' [tagP z ⟨4, genV z.d0 + 1, 0#32⟩] (half_len hF) (by omega) (fun w hw => by rw [List.mem_singleton.1 hw]; have : (tagP z ⟨4, genV z.d0 + 1, 0#32⟩).l = z.l := rfl; omega)
      refine JC_skip (JQ_then ?_)
      refine JC_region ?_
      refine JL_1 rfl (op_move rfl) ?_
      refine JL_1 rfl (by first | exact op_loadRefsN (n := 9) (Ev.rfl' rfl) rfl rfl rfl (by rfl) nrmT | exact op_loadPtrsN (n := 9) (Ev.rfl' rfl) memT (by rfl) (by rfl) (by rfl) (by rfl) nrmT) ?_
      refine JL_1 rfl (op_buildSlice (size := 9) (qs := [(0, _)]) rfl rfl rfl ⟨⟨rfl, _, (Ev.rfl' rfl), cellsT⟩, trivial⟩ (by rfl) (by rfl)) ?_
      (refine JL_s rfl (op_callT2 drop1T drop1T Try.call39 (hcom) ⟨evS, ⟨evS, trivial⟩⟩) ?_; intro i150)
      refine JL_nil ?_
      refine JQ_block (JQ_then ?_)
      refine JC_region ?_
      refine JL_1 rfl (op_move rfl) ?_
      refine JL_1 rfl (op_add (Ev.rfl' rfl) (Ev.rfl' rfl) wrapT) ?_
      refine JL_1 rfl (op_assign rfl) ?_
      refine JL_nil ?_
      exact JQ_roundP (j + 1, comP H' (tagP z ⟨4, genV z.d0 + 1, 0#32⟩)) ⟨by dsimp only; omega, hF'⟩ (by dsimp only; omega) esubT lessT
    have hje : k = j := by have := of_decide_eq_false h25; omega
    subst hje
    clear h25
    rw [show pk.drop k = [] from List.drop_eq_nil_of_le (by omega)] at hF
    refine JC_exit (JQ_then_exit (JQ_then_exit (JQ_hit (JQ_then ?_))))
    refine JC_region ?_
    refine JL_1 rfl (op_move rfl) ?_
    refine JL_1 rfl (op_move rfl) ?_
    refine JL_1 rfl (op_add (Ev.rfl' rfl) (Ev.rfl' rfl) wrapT) ?_
    refine JL_1 rfl (op_assign rfl) ?_
    refine JL_nil ?_
    refine JQ_block (JQ_then ?_)
    refine JC_region ?_
    refine JL_1 rfl (op_move rfl) ?_
    refine JL_1 rfl (op_add (Ev.rfl' rfl) (Ev.rfl' rfl) wrapT) ?_
    refine JL_1 rfl (op_assign rfl) ?_
    refine JL_nil ?_
    first
      | (have := g; exact JQ_roundP ((m + 1, tot, k - 1), H) ⟨by dsimp only; omega, by dsimp only; omega, by dsimp only; omega, own2_next hO, hHl⟩ (by dsimp only; omega) ⟨⟨_, rfl, SubL.rfl'⟩, ⟨_, rfl, SubL.rfl'⟩, ⟨_, rfl, SubL.rfl'⟩, ⟨_, rfl, SubL.rfl'⟩, ⟨_, rfl, SubL.eq (ieq (by dsimp only; omega))⟩, ⟨_, rfl, SubL.rfl'⟩, trivial⟩ lessT)
      | exact JQ_roundP ((m + 1, tot + k, k), H') ⟨by dsimp only; omega, by dsimp only; omega, by dsimp only; omega, half_end hF, by dsimp only; exact half_len hF⟩ (by dsimp only; omega) esubT lessT
  exfalso
  have := of_decide_eq_false h14
  obtain ⟨B, A, _, _, _, h4⟩ := hO
  omega
end Go.Proofs.Ytpfojangcgffkaa
