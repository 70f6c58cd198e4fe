/- Plain laws of packed words, continued: what was packed in range. Own work. -/
import Derived.Test.YtjajmfgbehiefaaWP
namespace Go.Proofs.Ytjajmfgbehiefaa
open Go.RowKit
set_option linter.unusedVariables false
theorem ofInt_in (n : Int) (h0 : 0 ≤ n) (h1 : n < 18446744073709551616) : ((BitVec.ofInt 64 n).toNat : Int) = n := by
  rw [ofInt_toNat']; omega
theorem isCl_of (c : Int) (h0 : 0 ≤ c) (h1 : c < 6) : isCl c = true := by unfold isCl; simp; omega
theorem isIn_of (i : Int) (h0 : 1 ≤ i) (h1 : i ≤ 59) (h2 : i % 2 = 1) : isIn i = true := by unfold isIn; simp; omega
theorem ballot_ok (r c : Int) (h0 : 1 ≤ r) (h1 : r ≤ 500) (h2 : 0 ≤ c) (h3 : c < 6) : ∃ x : BitVec 64, ballotS r c = (x, 0) ∧ (x.toNat : Int) = r * 8 + c + 1 := by
  refine ⟨BitVec.ofInt 64 (r * 8 + c + 1), ?_, ofInt_in _ (by omega) (by omega)⟩
  unfold ballotS
  rw [if_neg (by omega), if_pos (isCl_of c h2 h3)]
end Go.Proofs.Ytjajmfgbehiefaa
