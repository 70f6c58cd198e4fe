/- Types of the api, as lists of cells. Own work. -/
import Derived.Test.YthppeaelfcmafaaHg
import Derived.Test.YthppeaelfcmafaaMb
namespace Go.Proofs.Ythppeaelfcmafaa
open Go.RowKit
def tI64 : Ty Int := ⟨1, fun n => [Is (.int .i64 n)], fun _ => rfl⟩
def tU64 : Ty (BitVec 64) := ⟨1, fun n => [Is (.int .u64 (UV n))], fun _ => rfl⟩
def tMb : Ty Mb := ⟨3, fun m => [Is (.int .i64 m.n), Is (.int .i64 m.b), Is (.bool m.f)], fun _ => rfl⟩
/-- A view: its number, its members. -/
@[reducible] def IsView (n : Int) (ms : List Mb) : VP := IsAgg [Is (.int .i64 n), IsSl tMb ms]
@[reducible] def IsMb (m : Mb) : VP := IsAgg [Is (.int .i64 m.n), Is (.int .i64 m.b), Is (.bool m.f)]
end Go.Proofs.Ythppeaelfcmafaa
