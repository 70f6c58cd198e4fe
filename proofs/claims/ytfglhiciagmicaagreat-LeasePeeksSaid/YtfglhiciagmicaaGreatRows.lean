/-
  No cell of these rows narrows 'for every input' (looked for: loops, veiled, ifaces, maps, wideKeys, modest, calm, conditions, laid).
  DERIVED. THE GIVEN ROWS OF THIS SEAT. 4 by the template 'for every input the law returns true; each argument reads behind the call as it read before'; 0 by the template 'total and deterministic' (their statements: YtfglhiciagmicaaGreatTotals.lean).
  GIVEN WITH THE SEED: the statements are not yours to turn. If you find one false, say at which input.
  Laid BY PROGRAM, IN A SANDBOX (cutbox-rows.mjs): the forced cells as the released guide's own fill.sh prints them over the translation 2b7047e67088dd3e… (all of the seat's roots in one cut). By AI agents, Wed Nov 11 2026. No macro, syntax, notation, axiom, sorry.
-/
import Derived.Test.YtfglhiciagmicaaGreatChecked
import GoSem.Claim
import GoSem.ClaimJoined
import GoSem.ClaimMapViews
import Derived.JoinedTies
import Derived.KernelRfl
namespace Go.Proofs.YtfglhiciagmicaaGreat
/- THE CELL 'sum', in the pinned program and in every row, IS THE sha256 OF THE DUMP (.gsa) THAT YtfglhiciagmicaaGreatProg.lean LOADS. Nothing in Lean hashes anything: it is a label: what it is worth is what the hold of that sum in a sandbox is worth. -/
noncomputable def Tryz.pinned : Pinned := { name := "ytfglhiciagmicaagreat", sum := "2b7047e67088dd3ecdaff8964f0a3f114eabd92c69490e310fb707f7ad3e81ef", checked := Tryz.checked }
namespace Rows
def none {H : Type} : Left H := { results := [], args := [] }

/-- 'bodegalaw15.LeaseRenews': WHATEVER THE INPUT: true; the input reads as it did. -/
def leaseRenewsSpec : ChangeSpec := { name := "leaseRenews", fn := fun _ => fun
  | [d1, d2, d3, d4, d5] => { results := [.lit (.bool true)], args := [d1, d2, d3, d4, d5] }
  | _ => none }
def leaseRenewsRow : OpenClaim := { program := "ytfglhiciagmicaagreat", sum := "2b7047e67088dd3ecdaff8964f0a3f114eabd92c69490e310fb707f7ad3e81ef", func := "bodega/bodegalaw15.LeaseRenews", spec := "leaseRenews", unfollowed := true, recurses := true, apart := false }
def LeaseRenewsSaid : Prop := leaseRenewsRow.holds Tryz.pinned (OpenSpec.ofChange leaseRenewsSpec)

/-- ITS FALSE NEIGHBOUR: 'it returns false'. Refute it at one input. -/
def leaseRenewsWrong : ChangeSpec := { name := "leaseRenews", fn := fun _ => fun
  | [d1, d2, d3, d4, d5] => { results := [.lit (.bool false)], args := [d1, d2, d3, d4, d5] }
  | _ => none }
def LeaseRenewsWrongFalsely : Prop := leaseRenewsRow.holds Tryz.pinned (OpenSpec.ofChange leaseRenewsWrong)

/-- 'bodegalaw15.LeaseClocks': WHATEVER THE INPUT: true; the input reads as it did. -/
def leaseClocksSpec : ChangeSpec := { name := "leaseClocks", fn := fun _ => fun
  | [d1, d2, d3, d4, d5] => { results := [.lit (.bool true)], args := [d1, d2, d3, d4, d5] }
  | _ => none }
def leaseClocksRow : OpenClaim := { program := "ytfglhiciagmicaagreat", sum := "2b7047e67088dd3ecdaff8964f0a3f114eabd92c69490e310fb707f7ad3e81ef", func := "bodega/bodegalaw15.LeaseClocks", spec := "leaseClocks", unfollowed := true, recurses := true, apart := false }
def LeaseClocksSaid : Prop := leaseClocksRow.holds Tryz.pinned (OpenSpec.ofChange leaseClocksSpec)

/-- ITS FALSE NEIGHBOUR: 'it returns false'. Refute it at one input. -/
def leaseClocksWrong : ChangeSpec := { name := "leaseClocks", fn := fun _ => fun
  | [d1, d2, d3, d4, d5] => { results := [.lit (.bool false)], args := [d1, d2, d3, d4, d5] }
  | _ => none }
def LeaseClocksWrongFalsely : Prop := leaseClocksRow.holds Tryz.pinned (OpenSpec.ofChange leaseClocksWrong)

/-- 'bodegalaw15.LeaseResolves': WHATEVER THE INPUT: true; the input reads as it did. -/
def leaseResolvesSpec : ChangeSpec := { name := "leaseResolves", fn := fun _ => fun
  | [d1, d2, d3, d4, d5] => { results := [.lit (.bool true)], args := [d1, d2, d3, d4, d5] }
  | _ => none }
def leaseResolvesRow : OpenClaim := { program := "ytfglhiciagmicaagreat", sum := "2b7047e67088dd3ecdaff8964f0a3f114eabd92c69490e310fb707f7ad3e81ef", func := "bodega/bodegalaw15.LeaseResolves", spec := "leaseResolves", unfollowed := true, recurses := true, apart := false }
def LeaseResolvesSaid : Prop := leaseResolvesRow.holds Tryz.pinned (OpenSpec.ofChange leaseResolvesSpec)

/-- ITS FALSE NEIGHBOUR: 'it returns false'. Refute it at one input. -/
def leaseResolvesWrong : ChangeSpec := { name := "leaseResolves", fn := fun _ => fun
  | [d1, d2, d3, d4, d5] => { results := [.lit (.bool false)], args := [d1, d2, d3, d4, d5] }
  | _ => none }
def LeaseResolvesWrongFalsely : Prop := leaseResolvesRow.holds Tryz.pinned (OpenSpec.ofChange leaseResolvesWrong)

/-- 'bodegalaw15.LeasePeeks': WHATEVER THE INPUT: true; the input reads as it did. -/
def leasePeeksSpec : ChangeSpec := { name := "leasePeeks", fn := fun _ => fun
  | [d1, d2, d3, d4, d5, d6] => { results := [.lit (.bool true)], args := [d1, d2, d3, d4, d5, d6] }
  | _ => none }
def leasePeeksRow : OpenClaim := { program := "ytfglhiciagmicaagreat", sum := "2b7047e67088dd3ecdaff8964f0a3f114eabd92c69490e310fb707f7ad3e81ef", func := "bodega/bodegalaw15.LeasePeeks", spec := "leasePeeks", unfollowed := true, recurses := true, apart := false }
def LeasePeeksSaid : Prop := leasePeeksRow.holds Tryz.pinned (OpenSpec.ofChange leasePeeksSpec)

/-- ITS FALSE NEIGHBOUR: 'it returns false'. Refute it at one input. -/
def leasePeeksWrong : ChangeSpec := { name := "leasePeeks", fn := fun _ => fun
  | [d1, d2, d3, d4, d5, d6] => { results := [.lit (.bool false)], args := [d1, d2, d3, d4, d5, d6] }
  | _ => none }
def LeasePeeksWrongFalsely : Prop := leasePeeksRow.holds Tryz.pinned (OpenSpec.ofChange leasePeeksWrong)

/- THE SECOND FORM. 'bulk': how many values and letters a reading holds, each counted each time it is reached (what is shared counts as often as it is met; a slice's spare places count too). A statement '..UptoSaid' is the law's where the arguments, and the package variables that the reading takes, are together of bulk at most 1048576: NARROWER than '..Said'. Prove '..Said' where nothing that the law and all that it calls make is longer than what came in: it says more and counts as full. Else prove '..UptoSaid'. A law counts once. -/
mutual
def uptoBulk {H : Type} : DataW H → Nat
  | .lit (.string bytes) => bytes.length + 1
  | .lit _ => 1
  | .nil => 1
  | .ptr d => uptoBulk d + 1
  | .slice elems spare => uptoBulkAll elems + uptoBulkAll spare + 1
  | .agg parts => uptoBulkAll parts + 1
  | .iface _ d => uptoBulk d + 1
  | .map entries => uptoBulkEntries entries + 1
  | .held _ => 1
def uptoBulkAll {H : Type} : List (DataW H) → Nat
  | [] => 0
  | d :: r => uptoBulk d + uptoBulkAll r
def uptoBulkEntries {H : Type} : List (Lit × DataW H) → Nat
  | [] => 0
  | x :: r => uptoBulkEntry x + uptoBulkEntries r
def uptoBulkEntry {H : Type} : Lit × DataW H → Nat
  | (.string bytes, d) => bytes.length + uptoBulk d + 1
  | (_, d) => uptoBulk d + 1
 end
def uptoSmall : (H : Type) → List (DataW H) → Bool := fun _ ds => decide (uptoBulkAll ds ≤ 1048576)
def OpenSpec.upto (s : _root_.Go.ChangeSpec) : _root_.Go.OpenSpec := { _root_.Go.OpenSpec.ofChange s with cond := some uptoSmall }

/-- 'bodegalaw15.LeaseRenews', WHERE WHAT IT READS IS OF BULK AT MOST 1048576: true; the input reads as it did. -/
def leaseRenewsUptoRow : OpenClaim := { program := "ytfglhiciagmicaagreat", sum := "2b7047e67088dd3ecdaff8964f0a3f114eabd92c69490e310fb707f7ad3e81ef", func := "bodega/bodegalaw15.LeaseRenews", spec := "leaseRenews", unfollowed := true, recurses := true, apart := false, narrowed := true }
def LeaseRenewsUptoSaid : Prop := leaseRenewsUptoRow.holds Tryz.pinned (OpenSpec.upto leaseRenewsSpec)

/-- 'bodegalaw15.LeaseClocks', WHERE WHAT IT READS IS OF BULK AT MOST 1048576: true; the input reads as it did. -/
def leaseClocksUptoRow : OpenClaim := { program := "ytfglhiciagmicaagreat", sum := "2b7047e67088dd3ecdaff8964f0a3f114eabd92c69490e310fb707f7ad3e81ef", func := "bodega/bodegalaw15.LeaseClocks", spec := "leaseClocks", unfollowed := true, recurses := true, apart := false, narrowed := true }
def LeaseClocksUptoSaid : Prop := leaseClocksUptoRow.holds Tryz.pinned (OpenSpec.upto leaseClocksSpec)

/-- 'bodegalaw15.LeaseResolves', WHERE WHAT IT READS IS OF BULK AT MOST 1048576: true; the input reads as it did. -/
def leaseResolvesUptoRow : OpenClaim := { program := "ytfglhiciagmicaagreat", sum := "2b7047e67088dd3ecdaff8964f0a3f114eabd92c69490e310fb707f7ad3e81ef", func := "bodega/bodegalaw15.LeaseResolves", spec := "leaseResolves", unfollowed := true, recurses := true, apart := false, narrowed := true }
def LeaseResolvesUptoSaid : Prop := leaseResolvesUptoRow.holds Tryz.pinned (OpenSpec.upto leaseResolvesSpec)

/-- 'bodegalaw15.LeasePeeks', WHERE WHAT IT READS IS OF BULK AT MOST 1048576: true; the input reads as it did. -/
def leasePeeksUptoRow : OpenClaim := { program := "ytfglhiciagmicaagreat", sum := "2b7047e67088dd3ecdaff8964f0a3f114eabd92c69490e310fb707f7ad3e81ef", func := "bodega/bodegalaw15.LeasePeeks", spec := "leasePeeks", unfollowed := true, recurses := true, apart := false, narrowed := true }
def LeasePeeksUptoSaid : Prop := leasePeeksUptoRow.holds Tryz.pinned (OpenSpec.upto leasePeeksSpec)

end Rows
end Go.Proofs.YtfglhiciagmicaaGreat
