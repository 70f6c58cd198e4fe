/-
  NARROWER THAN 'FOR EVERY INPUT', by the rows' own cells (each row's printed sentence says how): HashRoots: laid · HashSlots: laid · HashBuckets: laid.
  DERIVED. THE GIVEN ROWS OF THIS SEAT. 3 by the template 'for every input the law returns true; each argument reads behind the call as it read before'; 0 by the template 'total and deterministic' (their statements: YtmcaomdjlepapaaDoorTotals.lean).
  GIVEN WITH THE SEED: the statements are not yours to turn. If you find one false, say at which input.
  Laid BY PROGRAM, IN A SANDBOX (cutbox-rows.mjs): the forced cells as the released guide's own fill.sh prints them over the translation 5fb537151a7e0169… (all of the seat's roots in one cut). By AI agents, Wed Nov 11 2026. No macro, syntax, notation, axiom, sorry.
-/
import Derived.Test.YtmcaomdjlepapaaDoorChecked
import GoSem.Claim
import GoSem.ClaimJoined
import GoSem.ClaimMapViews
import Derived.JoinedTies
import Derived.KernelRfl
namespace Go.Proofs.YtmcaomdjlepapaaDoor
/- THE CELL 'sum', in the pinned program and in every row, IS THE sha256 OF THE DUMP (.gsa) THAT YtmcaomdjlepapaaDoorProg.lean LOADS. Nothing in Lean hashes anything: it is a label: what it is worth is what the hold of that sum in a sandbox is worth. -/
noncomputable def Tryd.pinned : Pinned := { name := "ytmcaomdjlepapaadoor", sum := "5fb537151a7e01690910d75540282620df70c77b828cd1e4029598d99a6d4677", checked := Tryd.checked }
namespace Rows
def none {H : Type} : Left H := { results := [], args := [] }

/- WHAT THE LISTED PACKAGE-LEVEL VARIABLES READ AS WHEN THE CALL BEGINS. Each datum BY PROGRAM (the guide's laid-datum.mjs) off the statement by which the dump's own 'gosem.cut.vars' lays the variable. In a bare row this is a premise. The card (YtmcaomdjlepapaaDoorCards.lean) ties it to the program's text. -/
def laid_bodega_hashindex_none {H : Type} : DataW H := .agg [.lit (.int .i64 0), .lit (.int .i64 0)]

/-- 'bodegalaw23.HashRoots': WHATEVER THE INPUT: true; the input reads as it did. -/
def hashRootsSpec : ChangeSpec := { name := "hashRoots", fn := fun _ => fun
  | [d1, d2, d3] => { results := [.lit (.bool true)], args := [d1, d2, d3] }
  | _ => none }
def hashRootsRow : OpenClaim := { program := "ytmcaomdjlepapaadoor", sum := "5fb537151a7e01690910d75540282620df70c77b828cd1e4029598d99a6d4677", func := "bodega/bodegalaw23.HashRoots", spec := "hashRoots", named := ["bodega/hashindex.none"], apart := false, laid := [("bodega/hashindex.none", laid_bodega_hashindex_none)] }
def HashRootsSaid : Prop := hashRootsRow.holds Tryd.pinned (OpenSpec.ofChange hashRootsSpec)

/-- ITS FALSE NEIGHBOUR: 'it returns false'. Refute it at one input. -/
def hashRootsWrong : ChangeSpec := { name := "hashRoots", fn := fun _ => fun
  | [d1, d2, d3] => { results := [.lit (.bool false)], args := [d1, d2, d3] }
  | _ => none }
def HashRootsWrongFalsely : Prop := hashRootsRow.holds Tryd.pinned (OpenSpec.ofChange hashRootsWrong)

/-- 'bodegalaw23.HashSlots': WHATEVER THE INPUT: true; the input reads as it did. -/
def hashSlotsSpec : ChangeSpec := { name := "hashSlots", fn := fun _ => fun
  | [d1, d2, d3] => { results := [.lit (.bool true)], args := [d1, d2, d3] }
  | _ => none }
def hashSlotsRow : OpenClaim := { program := "ytmcaomdjlepapaadoor", sum := "5fb537151a7e01690910d75540282620df70c77b828cd1e4029598d99a6d4677", func := "bodega/bodegalaw23.HashSlots", spec := "hashSlots", unfollowed := true, recurses := true, named := ["bodega/hashindex.none"], apart := false, laid := [("bodega/hashindex.none", laid_bodega_hashindex_none)] }
def HashSlotsSaid : Prop := hashSlotsRow.holds Tryd.pinned (OpenSpec.ofChange hashSlotsSpec)

/-- ITS FALSE NEIGHBOUR: 'it returns false'. Refute it at one input. -/
def hashSlotsWrong : ChangeSpec := { name := "hashSlots", fn := fun _ => fun
  | [d1, d2, d3] => { results := [.lit (.bool false)], args := [d1, d2, d3] }
  | _ => none }
def HashSlotsWrongFalsely : Prop := hashSlotsRow.holds Tryd.pinned (OpenSpec.ofChange hashSlotsWrong)

/-- 'bodegalaw23.HashBuckets': WHATEVER THE INPUT: true; the input reads as it did. -/
def hashBucketsSpec : ChangeSpec := { name := "hashBuckets", fn := fun _ => fun
  | [d1, d2, d3] => { results := [.lit (.bool true)], args := [d1, d2, d3] }
  | _ => none }
def hashBucketsRow : OpenClaim := { program := "ytmcaomdjlepapaadoor", sum := "5fb537151a7e01690910d75540282620df70c77b828cd1e4029598d99a6d4677", func := "bodega/bodegalaw23.HashBuckets", spec := "hashBuckets", named := ["bodega/hashindex.none"], apart := false, laid := [("bodega/hashindex.none", laid_bodega_hashindex_none)] }
def HashBucketsSaid : Prop := hashBucketsRow.holds Tryd.pinned (OpenSpec.ofChange hashBucketsSpec)

/-- ITS FALSE NEIGHBOUR: 'it returns false'. Refute it at one input. -/
def hashBucketsWrong : ChangeSpec := { name := "hashBuckets", fn := fun _ => fun
  | [d1, d2, d3] => { results := [.lit (.bool false)], args := [d1, d2, d3] }
  | _ => none }
def HashBucketsWrongFalsely : Prop := hashBucketsRow.holds Tryd.pinned (OpenSpec.ofChange hashBucketsWrong)

/- THE SECOND FORM. 'bulk': how many values and letters a reading holds, each counted each time it is reached (what is shared counts as often as it is met; a slice's spare places count too). A statement '..UptoSaid' is the law's where the arguments, and the package variables that the reading takes, are together of bulk at most 1048576: NARROWER than '..Said'. Prove '..Said' where nothing that the law and all that it calls make is longer than what came in: it says more and counts as full. Else prove '..UptoSaid'. A law counts once. -/
mutual
def uptoBulk {H : Type} : DataW H → Nat
  | .lit (.string bytes) => bytes.length + 1
  | .lit _ => 1
  | .nil => 1
  | .ptr d => uptoBulk d + 1
  | .slice elems spare => uptoBulkAll elems + uptoBulkAll spare + 1
  | .agg parts => uptoBulkAll parts + 1
  | .iface _ d => uptoBulk d + 1
  | .map entries => uptoBulkEntries entries + 1
  | .held _ => 1
def uptoBulkAll {H : Type} : List (DataW H) → Nat
  | [] => 0
  | d :: r => uptoBulk d + uptoBulkAll r
def uptoBulkEntries {H : Type} : List (Lit × DataW H) → Nat
  | [] => 0
  | x :: r => uptoBulkEntry x + uptoBulkEntries r
def uptoBulkEntry {H : Type} : Lit × DataW H → Nat
  | (.string bytes, d) => bytes.length + uptoBulk d + 1
  | (_, d) => uptoBulk d + 1
 end
def uptoSmall : (H : Type) → List (DataW H) → Bool := fun _ ds => decide (uptoBulkAll ds ≤ 1048576)
def OpenSpec.upto (s : _root_.Go.ChangeSpec) : _root_.Go.OpenSpec := { _root_.Go.OpenSpec.ofChange s with cond := some uptoSmall }

/-- 'bodegalaw23.HashRoots', WHERE WHAT IT READS IS OF BULK AT MOST 1048576: true; the input reads as it did. -/
def hashRootsUptoRow : OpenClaim := { program := "ytmcaomdjlepapaadoor", sum := "5fb537151a7e01690910d75540282620df70c77b828cd1e4029598d99a6d4677", func := "bodega/bodegalaw23.HashRoots", spec := "hashRoots", named := ["bodega/hashindex.none"], apart := false, laid := [("bodega/hashindex.none", laid_bodega_hashindex_none)], narrowed := true }
def HashRootsUptoSaid : Prop := hashRootsUptoRow.holds Tryd.pinned (OpenSpec.upto hashRootsSpec)

/-- 'bodegalaw23.HashSlots', WHERE WHAT IT READS IS OF BULK AT MOST 1048576: true; the input reads as it did. -/
def hashSlotsUptoRow : OpenClaim := { program := "ytmcaomdjlepapaadoor", sum := "5fb537151a7e01690910d75540282620df70c77b828cd1e4029598d99a6d4677", func := "bodega/bodegalaw23.HashSlots", spec := "hashSlots", unfollowed := true, recurses := true, named := ["bodega/hashindex.none"], apart := false, laid := [("bodega/hashindex.none", laid_bodega_hashindex_none)], narrowed := true }
def HashSlotsUptoSaid : Prop := hashSlotsUptoRow.holds Tryd.pinned (OpenSpec.upto hashSlotsSpec)

/-- 'bodegalaw23.HashBuckets', WHERE WHAT IT READS IS OF BULK AT MOST 1048576: true; the input reads as it did. -/
def hashBucketsUptoRow : OpenClaim := { program := "ytmcaomdjlepapaadoor", sum := "5fb537151a7e01690910d75540282620df70c77b828cd1e4029598d99a6d4677", func := "bodega/bodegalaw23.HashBuckets", spec := "hashBuckets", named := ["bodega/hashindex.none"], apart := false, laid := [("bodega/hashindex.none", laid_bodega_hashindex_none)], narrowed := true }
def HashBucketsUptoSaid : Prop := hashBucketsUptoRow.holds Tryd.pinned (OpenSpec.upto hashBucketsSpec)

end Rows
end Go.Proofs.YtmcaomdjlepapaaDoor
