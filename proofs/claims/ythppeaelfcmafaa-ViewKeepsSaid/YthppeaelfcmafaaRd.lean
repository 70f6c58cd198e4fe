/- From the frame's readings to lists of anything: slices whose elements are read by a given reader. Own work. -/
import Derived.Test.YthppeaelfcmafaaOpen
import Derived.Deep.Slices
import Derived.OpenShut
namespace Go.Proofs.Ythppeaelfcmafaa
open Go.RowKit Go.ChangeShapes Go.WideShapes Go.ChangeAt
set_option linter.unusedVariables false
theorem app_eq {α : Type} {a a' b b' : List α} (h : a = a') (h2 : b = b') : a ++ b = a' ++ b' := by rw [h, h2]
theorem flat_len {α : Type} (f : α → List Value) (s : Nat) (hf : ∀ a, (f a).length = s) (xs : List α) : (xs.flatMap f).length = xs.length * s := by
  induction xs with
  | nil => simp
  | cons x xs ih => rw [List.flatMap_cons, List.length_append, ih, hf, List.length_cons, Nat.add_mul]; omega
theorem flat_get {α : Type} (f : α → List Value) (s : Nat) (hs : 0 < s) (hf : ∀ a, (f a).length = s) (xs : List α) (i : Nat) (u : Value) (h : (xs.flatMap f)[i]? = some u) :
    ∃ a, xs[i / s]? = some a ∧ (f a)[i % s]? = some u := by
  induction xs generalizing i with
  | nil => simp at h
  | cons x xs ih =>
    rw [List.flatMap_cons] at h
    rcases Nat.lt_or_ge i s with g | g
    · rw [List.getElem?_append_left (by rw [hf]; exact g)] at h
      exact ⟨x, by rw [Nat.div_eq_of_lt g]; rfl, by rw [Nat.mod_eq_of_lt g]; exact h⟩
    · rw [List.getElem?_append_right (by rw [hf]; exact g), hf] at h
      obtain ⟨a, h1, h2⟩ := ih _ h
      refine ⟨a, ?_, ?_⟩
      · rw [Nat.div_eq_sub_div hs g, List.getElem?_cons_succ]; exact h1
      · rw [Nat.mod_eq_sub_mod g]; exact h2
section
variable {H : Type} {enc : TypeId × Value → H} {P : Program} {w : World} {base : Nat} {sp : Nat → Bool} {held : Bool}
theorem rd_slice {α : Type} (f : α → List Value) (R : α → Prop) (s : Nat) (hs : 0 < s) (hf : ∀ a, (f a).length = s) {t e : TypeId} (ht : P.underlying t = some (.slice e)) (hc : P.cellsOf e = s)
    (he : ∀ (fuel : Nat) (cs : List Value) (x : DataW H × List MemPlace), DataW.trod enc P w base sp held fuel e cs = some x → ∃ a, cs = f a ∧ R a)
    {fuel : Nat} {cs : List Value} {x : DataW H × List MemPlace} (h : DataW.trod enc P w base sp held fuel t cs = some x) :
    ∃ (v : Value) (xs : List α), cs = [v] ∧ SlN w v s xs.length (xs.flatMap f) ∧ ∀ a ∈ xs, R a := by
  rcases Go.Deep.open_slice ht h with ⟨rfl, _⟩ | ⟨a, len, cap, m, n, D, Pl, rfl, _, hl, hm, hmm, _, hx⟩
  · exact ⟨_, [], rfl, ⟨flat_len f s hf [], .inl ⟨_, _, rfl, rfl⟩⟩, fun a ha => absurd ha (List.not_mem_nil)⟩
  have hlm : len ≤ m := by rw [hmm]; split <;> omega
  rcases Nat.eq_zero_or_pos len with h0 | h0
  · subst h0
    exact ⟨_, [], rfl, ⟨flat_len f s hf [], .inl ⟨_, _, rfl, rfl⟩⟩, fun a ha => absurd ha (List.not_mem_nil)⟩
  have key : ∀ i, i < len → ∃ y : α, (∀ j, j < s → w.cell? ((a.add (i * s)).add j) = (f y)[j]?) ∧ R y := fun i hi => by
    obtain ⟨cs', h1, h2⟩ := hx i (by omega)
    rw [hc] at h1
    obtain ⟨_, hlen, hcell⟩ := World.cells?_some h1
    obtain ⟨y, rfl, hR⟩ := he _ _ _ h2
    exact ⟨y, hcell, hR⟩
  obtain ⟨y0, hy0, _⟩ := key 0 h0
  have : Inhabited α := ⟨y0⟩
  obtain ⟨A, hA⟩ := Go.Deep.choose_lt key
  have hsp : a.spot = none ∧ a.block < w.heap.size := by
    have h1 := hy0 0 hs
    rw [List.getElem?_eq_getElem (by rw [hf]; exact hs)] at h1
    obtain ⟨b, o, q⟩ := a
    have h2 : q = none := by simpa [Addr.add] using World.cell?_spot h1
    subst h2
    exact ⟨rfl, by simpa [Addr.add] using block_lt_of_cell h1⟩
  obtain ⟨b, o, q⟩ := a
  obtain ⟨h2, hb⟩ := hsp
  dsimp only at h2 hb
  subst h2
  refine ⟨_, (List.range len).map A, rfl, ⟨flat_len f s hf _, .inr ⟨b, o, cap, by simp, by simpa using hl, hm, hb, fun i u hu => ?_⟩⟩, fun y hy => ?_⟩
  · obtain ⟨y, g1, g2⟩ := flat_get f s hs hf _ i u hu
    have hlt : i / s < len := by
      rcases Nat.lt_or_ge (i / s) len with g | g
      · exact g
      · rw [List.getElem?_eq_none (by simpa using g)] at g1; cases g1
    rw [List.getElem?_map, List.getElem?_range hlt] at g1
    simp only [Option.map_some, Option.some.injEq] at g1
    subst g1
    have h3 := (hA _ hlt).1 (i % s) (Nat.mod_lt _ hs)
    rw [g2, addr_add, addr_add] at h3
    rw [← h3]
    congr 2
    have := Nat.div_add_mod i s
    rw [Nat.mul_comm] at this
    omega
  · obtain ⟨i, hi, rfl⟩ := List.mem_map.1 hy
    exact (hA i (List.mem_range.1 hi)).2
theorem flat_map {α : Type} (f : α → Value) (xs : List α) : xs.flatMap (fun a => [f a]) = xs.map f := by
  induction xs with
  | nil => rfl
  | cons x xs ih => rw [List.flatMap_cons, ih]; rfl
theorem rd_slice1 {α : Type} (f : α → Value) (R : α → Prop) {t e : TypeId} (ht : P.underlying t = some (.slice e)) (hc : P.cellsOf e = 1)
    (he : ∀ (fuel : Nat) (cs : List Value) (x : DataW H × List MemPlace), DataW.trod enc P w base sp held fuel e cs = some x → ∃ a, cs = [f a] ∧ R a)
    {fuel : Nat} {cs : List Value} {x : DataW H × List MemPlace} (h : DataW.trod enc P w base sp held fuel t cs = some x) :
    ∃ (v : Value) (xs : List α), cs = [v] ∧ Sl w v (xs.map f) ∧ ∀ a ∈ xs, R a := by
  obtain ⟨v, xs, e, h1, h2⟩ := rd_slice (fun a => [f a]) R 1 (by decide) (fun _ => rfl) ht hc he h
  rw [flat_map] at h1
  refine ⟨v, xs, e, ?_, h2⟩
  unfold Sl
  rw [List.length_map]
  exact h1
theorem rd_i64 {t : TypeId} (ht : P.underlying t = some (.int .i64)) {fuel : Nat} {cs : List Value} {x : DataW H × List MemPlace} (h : DataW.trod enc P w base sp held fuel t cs = some x) :
    ∃ a : Int, cs = [.int .i64 a] ∧ (-9223372036854775808 ≤ a ∧ a ≤ 9223372036854775807) := by
  obtain ⟨a, e, _, hw⟩ := DataW.trod_int ht h
  exact ⟨a, e, i64_of_wf hw⟩
theorem rd_u64 {t : TypeId} (ht : P.underlying t = some (.int .u64)) {fuel : Nat} {cs : List Value} {x : DataW H × List MemPlace} (h : DataW.trod enc P w base sp held fuel t cs = some x) :
    ∃ a : BitVec 64, cs = [.int .u64 (UV a)] ∧ True := by
  obtain ⟨a, e, _, hw⟩ := DataW.trod_int ht h
  obtain ⟨b, rfl⟩ := u64_of_wf hw
  exact ⟨b, e, trivial⟩
theorem rd_u32 {t : TypeId} (ht : P.underlying t = some (.int .u32)) {fuel : Nat} {cs : List Value} {x : DataW H × List MemPlace} (h : DataW.trod enc P w base sp held fuel t cs = some x) :
    ∃ a : BitVec 32, cs = [.int .u32 (UV a)] ∧ True := by
  obtain ⟨a, e, _, hw⟩ := DataW.trod_int ht h
  obtain ⟨b, rfl⟩ := u32_of_wf hw
  exact ⟨b, e, trivial⟩
theorem rd_u8 {t : TypeId} (ht : P.underlying t = some (.int .u8)) {fuel : Nat} {cs : List Value} {x : DataW H × List MemPlace} (h : DataW.trod enc P w base sp held fuel t cs = some x) :
    ∃ a : BitVec 8, cs = [.int .u8 (UV a)] ∧ True := by
  obtain ⟨a, e, _, hw⟩ := DataW.trod_int ht h
  obtain ⟨b, rfl⟩ := u8_of_wf hw
  exact ⟨b, e, trivial⟩
theorem rd_bool {t : TypeId} (ht : P.underlying t = some .bool) {fuel : Nat} {cs : List Value} {x : DataW H × List MemPlace} (h : DataW.trod enc P w base sp held fuel t cs = some x) :
    ∃ a : Bool, cs = [.bool a] ∧ True := by
  obtain ⟨a, e, _⟩ := DataW.trod_bool ht h
  exact ⟨a, e, trivial⟩
/-- An argument that is a struct. -/
theorem rd_arg {α : Type} (f : α → List Value) (R : α → Prop) {t : TypeId} {fs : Array Field} (ht : P.underlying t = some (.struct fs)) {r : Reach} {b0 : Nat} {v : Value} {d : DataW H} {ps : List MemPlace}
    (he : ∀ (fuel : Nat) (cs : List Value) (x : DataW H × List MemPlace), DataW.trod enc P w base sp held fuel t cs = some x → ∃ a, cs = f a ∧ R a)
    (hval : Value.okWide P w r b0 t v) (h : DataW.Trod enc P w base sp held t v d ps) : ∃ a, v = .agg (f a).toArray ∧ R a := by
  obtain ⟨cs, rfl, _⟩ := okWide_struct ht hval
  obtain ⟨fuel, hf⟩ := h
  obtain ⟨a, e, hR⟩ := he _ _ _ hf
  refine ⟨a, ?_, hR⟩
  have : cs.toList = f a := e
  rw [← this]
/-- An argument that is a slice. -/
theorem rd_sarg {α : Type} (f : α → List Value) (R : α → Prop) (s : Nat) (hs : 0 < s) (hf : ∀ a, (f a).length = s) {t e : TypeId} (ht : P.underlying t = some (.slice e)) (hc : P.cellsOf e = s) {r : Reach} {b0 : Nat} {v : Value} {d : DataW H} {ps : List MemPlace}
    (he : ∀ (fuel : Nat) (cs : List Value) (x : DataW H × List MemPlace), DataW.trod enc P w base sp held fuel e cs = some x → ∃ a, cs = f a ∧ R a)
    (hval : Value.okWide P w r b0 t v) (h : DataW.Trod enc P w base sp held t v d ps) : ∃ xs : List α, SlN w v s xs.length (xs.flatMap f) ∧ ∀ a ∈ xs, R a := by
  obtain ⟨a, len, cap, rfl⟩ := okWide_slice ht hval
  obtain ⟨fuel, hf'⟩ := h
  obtain ⟨v, xs, e1, h1, h2⟩ := rd_slice f R s hs hf ht hc he hf'
  simp [Value.cells] at e1
  subst e1
  exact ⟨xs, h1, h2⟩
end
end Go.Proofs.Ythppeaelfcmafaa
