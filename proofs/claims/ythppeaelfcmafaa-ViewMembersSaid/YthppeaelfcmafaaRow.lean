/- From the frame's reading of a slice of integers to a list of bit vectors. Own work. -/
import Derived.Test.YthppeaelfcmafaaMem
import Derived.Test.YthppeaelfcmafaaWf
import Derived.ProofKit
namespace Go.Proofs.Ythppeaelfcmafaa
open Go.RowKit
set_option linter.unusedVariables false
theorem sl_of_row {k : IntKind} {w : World} {a : Option Addr} {len cap : Nat} {zs : List Int}
    (h : (a = none ∧ len = 0 ∧ cap = 0 ∧ zs = []) ∨
      ∃ x, a = some x ∧ len ≤ cap ∧ cap ≤ maxLen ∧ zs.length = cap ∧ (∀ i, i < zs.length → w.cell? (x.add i) = some (.int k (zs.getD i 0))) ∧ ∀ n ∈ zs, (Lit.int k n).wf = true) :
    Sl w (.slice a len cap) ((zs.take len).map (Value.int k)) ∧ (zs.take len).length = len ∧ ∀ n ∈ zs.take len, (Lit.int k n).wf = true := by
  rcases h with ⟨rfl, rfl, rfl, rfl⟩ | ⟨x, rfl, h1, h2, h3, h4, h5⟩
  · exact ⟨⟨rfl, .inl ⟨_, _, rfl, rfl⟩⟩, rfl, by simp⟩
  · have hl : (zs.take len).length = len := by rw [List.length_take]; omega
    refine ⟨⟨by simp, ?_⟩, hl, fun n hn => h5 n (List.mem_of_mem_take hn)⟩
    rw [List.length_map, hl]
    by_cases h0 : len = 0
    · subst h0; exact .inl ⟨_, _, rfl, rfl⟩
    · obtain ⟨b, o, sp⟩ := x
      have hc := h4 0 (by omega)
      have hsp : sp = none := by simpa [Addr.add] using World.cell?_spot hc
      subst hsp
      refine .inr ⟨b, o, cap, rfl, h1, h2, block_lt_of_cell (a := ⟨b, o, none⟩) (by simpa [Addr.add] using hc), fun i u hu => ?_⟩
      rw [List.getElem?_map] at hu
      have hi : i < len := by
        rcases Nat.lt_or_ge i len with g | g
        · exact g
        · rw [List.getElem?_eq_none (by rw [hl]; exact g)] at hu; cases hu
      have hd := h4 i (by omega)
      rw [← Addr.add_lit b o i, hd]
      rw [List.getElem?_take_of_lt hi, List.getElem?_eq_getElem (by omega)] at hu
      simp only [Option.map_some] at hu
      rw [← hu, List.getD_eq_getElem?_getD, List.getElem?_eq_getElem (by omega)]
      rfl
theorem u8s_of_wf : ∀ {l : List Int}, (∀ n ∈ l, (Lit.int .u8 n).wf = true) → ∃ bs : List (BitVec 8), l.map (Value.int .u8) = bs.map fun b => Value.int .u8 (UV b)
  | [], _ => ⟨[], rfl⟩
  | a :: l, h => by
    obtain ⟨x, rfl⟩ := u8_of_wf (h a List.mem_cons_self)
    obtain ⟨bs, e⟩ := u8s_of_wf fun n hn => h n (List.mem_cons_of_mem _ hn)
    exact ⟨x :: bs, by rw [List.map_cons, List.map_cons, e]⟩
theorem u64s_of_wf : ∀ {l : List Int}, (∀ n ∈ l, (Lit.int .u64 n).wf = true) → ∃ bs : List (BitVec 64), l.map (Value.int .u64) = bs.map fun b => Value.int .u64 (UV b)
  | [], _ => ⟨[], rfl⟩
  | a :: l, h => by
    obtain ⟨x, rfl⟩ := u64_of_wf (h a List.mem_cons_self)
    obtain ⟨bs, e⟩ := u64s_of_wf fun n hn => h n (List.mem_cons_of_mem _ hn)
    exact ⟨x :: bs, by rw [List.map_cons, List.map_cons, e]⟩
end Go.Proofs.Ythppeaelfcmafaa
