/- The example of chapter 1. Own work. -/
import Derived.Test.YtjajmfgbehiefaaW4
namespace Go.Proofs.Ytjajmfgbehiefaa
open Go.RowKit
set_option maxHeartbeats 2000000 in
theorem awake_any (w : World) : Calls Try.prog 19 #[] w fun e w' => e = .returned (.bool true) ∧ w = w' := by
  have e1 : hdrS 1#64 0 = (256#64, 0) := by decide
  have e2 : lockS 256#64 2 = (259#64, 0) := by decide
  have e3 : nextS 259#64 = (512#64, 0) := by decide
  have e4 : keyS 3 true = (7#64, 0) := by decide
  have e5 : markS 5 = (22#64, 0) := by decide
  have e6 : tagS 1 0 = (257#64, 0) := by decide
  have e7 : ballotS 1 0 = (9#64, 0) := by decide
  go_enter Try.func19, Try.ntmps19
  go_wp2_with (first
    | (go_at_call 11; refine (Header_any 1#64 0 _).mono ?_; rintro e w' ⟨rfl, rfl⟩)
    | (go_at_call 15; refine (Lock_any 256#64 2 _).mono ?_; rintro e w' ⟨rfl, rfl⟩)
    | (go_at_call 17; refine (Next_any 259#64 _).mono ?_; rintro e w' ⟨rfl, rfl⟩)
    | (go_at_call 24; refine (Key_any 3 true _).mono ?_; rintro e w' ⟨rfl, rfl⟩)
    | (go_at_call 26; refine (Mark_any 5 _).mono ?_; rintro e w' ⟨rfl, rfl⟩)
    | (go_at_call 28; refine (Tag_any 1 0 _).mono ?_; rintro e w' ⟨rfl, rfl⟩)
    | (go_at_call 23; refine (Ballot_any 1 0 _).mono ?_; rintro e w' ⟨rfl, rfl⟩))
  go_outline
  go_ret
  exact ⟨rfl, rfl⟩
end Go.Proofs.Ytjajmfgbehiefaa
