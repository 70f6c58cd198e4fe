/-
  No cell of these rows narrows 'for every input' (looked for: loops, veiled, ifaces, maps, wideKeys, modest, calm, conditions, laid).
  DERIVED. THE GIVEN ROWS OF THIS SEAT. 10 by the template 'for every input the law returns true; each argument reads behind the call as it read before'; 0 by the template 'total and deterministic' (their statements: YtpfojangcgffkaaTotals.lean).
  GIVEN WITH THE SEED: the statements are not yours to turn. If you find one false, say at which input.
  Laid BY PROGRAM, IN A SANDBOX (cutbox-rows.mjs): the forced cells as the released guide's own fill.sh prints them over the translation 4759e4a3f0f8ec18… (all of the seat's roots in one cut). By AI agents, Wed Nov 11 2026. No macro, syntax, notation, axiom, sorry.
-/
import Derived.Test.YtpfojangcgffkaaChecked
import GoSem.Claim
import GoSem.ClaimJoined
import GoSem.ClaimMapViews
import Derived.JoinedTies
import Derived.KernelRfl
namespace Go.Proofs.Ytpfojangcgffkaa
/- THE CELL 'sum', in the pinned program and in every row, IS THE sha256 OF THE DUMP (.gsa) THAT YtpfojangcgffkaaProg.lean LOADS. Nothing in Lean hashes anything: it is a label: what it is worth is what the hold of that sum in a sandbox is worth. -/
noncomputable def Try.pinned : Pinned := { name := "ytpfojangcgffkaa", sum := "4759e4a3f0f8ec1850b22ecba6b5bd14a1a1b9acd97278ce9d93b181e96e036f", checked := Try.checked }
namespace Rows
def none {H : Type} : Left H := { results := [], args := [] }

/-- 'bodegalaw20.SegmentPages': WHATEVER THE INPUT: true; the input reads as it did. -/
def segmentPagesSpec : ChangeSpec := { name := "segmentPages", fn := fun _ => fun
  | [d1, d2, d3, d4] => { results := [.lit (.bool true)], args := [d1, d2, d3, d4] }
  | _ => none }
def segmentPagesRow : OpenClaim := { program := "ytpfojangcgffkaa", sum := "4759e4a3f0f8ec1850b22ecba6b5bd14a1a1b9acd97278ce9d93b181e96e036f", func := "bodega/bodegalaw20.SegmentPages", spec := "segmentPages", unfollowed := true, recurses := true, apart := false }
def SegmentPagesSaid : Prop := segmentPagesRow.holds Try.pinned (OpenSpec.ofChange segmentPagesSpec)

/-- ITS FALSE NEIGHBOUR: 'it returns false'. Refute it at one input. -/
def segmentPagesWrong : ChangeSpec := { name := "segmentPages", fn := fun _ => fun
  | [d1, d2, d3, d4] => { results := [.lit (.bool false)], args := [d1, d2, d3, d4] }
  | _ => none }
def SegmentPagesWrongFalsely : Prop := segmentPagesRow.holds Try.pinned (OpenSpec.ofChange segmentPagesWrong)

/-- 'bodegalaw20.SegmentRound': WHATEVER THE INPUT: true; the input reads as it did. -/
def segmentRoundSpec : ChangeSpec := { name := "segmentRound", fn := fun _ => fun
  | [d1, d2, d3, d4] => { results := [.lit (.bool true)], args := [d1, d2, d3, d4] }
  | _ => none }
def segmentRoundRow : OpenClaim := { program := "ytpfojangcgffkaa", sum := "4759e4a3f0f8ec1850b22ecba6b5bd14a1a1b9acd97278ce9d93b181e96e036f", func := "bodega/bodegalaw20.SegmentRound", spec := "segmentRound", unfollowed := true, recurses := true, apart := false }
def SegmentRoundSaid : Prop := segmentRoundRow.holds Try.pinned (OpenSpec.ofChange segmentRoundSpec)

/-- ITS FALSE NEIGHBOUR: 'it returns false'. Refute it at one input. -/
def segmentRoundWrong : ChangeSpec := { name := "segmentRound", fn := fun _ => fun
  | [d1, d2, d3, d4] => { results := [.lit (.bool false)], args := [d1, d2, d3, d4] }
  | _ => none }
def SegmentRoundWrongFalsely : Prop := segmentRoundRow.holds Try.pinned (OpenSpec.ofChange segmentRoundWrong)

/-- 'bodegalaw20.SegmentLines': WHATEVER THE INPUT: true; the input reads as it did. -/
def segmentLinesSpec : ChangeSpec := { name := "segmentLines", fn := fun _ => fun
  | [d1, d2, d3, d4] => { results := [.lit (.bool true)], args := [d1, d2, d3, d4] }
  | _ => none }
def segmentLinesRow : OpenClaim := { program := "ytpfojangcgffkaa", sum := "4759e4a3f0f8ec1850b22ecba6b5bd14a1a1b9acd97278ce9d93b181e96e036f", func := "bodega/bodegalaw20.SegmentLines", spec := "segmentLines", unfollowed := true, recurses := true, apart := false }
def SegmentLinesSaid : Prop := segmentLinesRow.holds Try.pinned (OpenSpec.ofChange segmentLinesSpec)

/-- ITS FALSE NEIGHBOUR: 'it returns false'. Refute it at one input. -/
def segmentLinesWrong : ChangeSpec := { name := "segmentLines", fn := fun _ => fun
  | [d1, d2, d3, d4] => { results := [.lit (.bool false)], args := [d1, d2, d3, d4] }
  | _ => none }
def SegmentLinesWrongFalsely : Prop := segmentLinesRow.holds Try.pinned (OpenSpec.ofChange segmentLinesWrong)

/-- 'bodegalaw20.SegmentMerges': WHATEVER THE INPUT: true; the input reads as it did. -/
def segmentMergesSpec : ChangeSpec := { name := "segmentMerges", fn := fun _ => fun
  | [d1, d2, d3] => { results := [.lit (.bool true)], args := [d1, d2, d3] }
  | _ => none }
def segmentMergesRow : OpenClaim := { program := "ytpfojangcgffkaa", sum := "4759e4a3f0f8ec1850b22ecba6b5bd14a1a1b9acd97278ce9d93b181e96e036f", func := "bodega/bodegalaw20.SegmentMerges", spec := "segmentMerges", unfollowed := true, recurses := true, apart := false }
def SegmentMergesSaid : Prop := segmentMergesRow.holds Try.pinned (OpenSpec.ofChange segmentMergesSpec)

/-- ITS FALSE NEIGHBOUR: 'it returns false'. Refute it at one input. -/
def segmentMergesWrong : ChangeSpec := { name := "segmentMerges", fn := fun _ => fun
  | [d1, d2, d3] => { results := [.lit (.bool false)], args := [d1, d2, d3] }
  | _ => none }
def SegmentMergesWrongFalsely : Prop := segmentMergesRow.holds Try.pinned (OpenSpec.ofChange segmentMergesWrong)

/-- 'bodegalaw20.SegmentWhole': WHATEVER THE INPUT: true; the input reads as it did. -/
def segmentWholeSpec : ChangeSpec := { name := "segmentWhole", fn := fun _ => fun
  | [d1, d2, d3] => { results := [.lit (.bool true)], args := [d1, d2, d3] }
  | _ => none }
def segmentWholeRow : OpenClaim := { program := "ytpfojangcgffkaa", sum := "4759e4a3f0f8ec1850b22ecba6b5bd14a1a1b9acd97278ce9d93b181e96e036f", func := "bodega/bodegalaw20.SegmentWhole", spec := "segmentWhole", unfollowed := true, recurses := true, apart := false }
def SegmentWholeSaid : Prop := segmentWholeRow.holds Try.pinned (OpenSpec.ofChange segmentWholeSpec)

/-- ITS FALSE NEIGHBOUR: 'it returns false'. Refute it at one input. -/
def segmentWholeWrong : ChangeSpec := { name := "segmentWhole", fn := fun _ => fun
  | [d1, d2, d3] => { results := [.lit (.bool false)], args := [d1, d2, d3] }
  | _ => none }
def SegmentWholeWrongFalsely : Prop := segmentWholeRow.holds Try.pinned (OpenSpec.ofChange segmentWholeWrong)

/-- 'bodegalaw20.SegmentOnce': WHATEVER THE INPUT: true; the input reads as it did. -/
def segmentOnceSpec : ChangeSpec := { name := "segmentOnce", fn := fun _ => fun
  | [d1, d2] => { results := [.lit (.bool true)], args := [d1, d2] }
  | _ => none }
def segmentOnceRow : OpenClaim := { program := "ytpfojangcgffkaa", sum := "4759e4a3f0f8ec1850b22ecba6b5bd14a1a1b9acd97278ce9d93b181e96e036f", func := "bodega/bodegalaw20.SegmentOnce", spec := "segmentOnce", unfollowed := true, recurses := true, apart := false }
def SegmentOnceSaid : Prop := segmentOnceRow.holds Try.pinned (OpenSpec.ofChange segmentOnceSpec)

/-- ITS FALSE NEIGHBOUR: 'it returns false'. Refute it at one input. -/
def segmentOnceWrong : ChangeSpec := { name := "segmentOnce", fn := fun _ => fun
  | [d1, d2] => { results := [.lit (.bool false)], args := [d1, d2] }
  | _ => none }
def SegmentOnceWrongFalsely : Prop := segmentOnceRow.holds Try.pinned (OpenSpec.ofChange segmentOnceWrong)

/-- 'bodegalaw28.TxnRaw': WHATEVER THE INPUT: true; the input reads as it did. -/
def txnRawSpec : ChangeSpec := { name := "txnRaw", fn := fun _ => fun
  | [d1, d2] => { results := [.lit (.bool true)], args := [d1, d2] }
  | _ => none }
def txnRawRow : OpenClaim := { program := "ytpfojangcgffkaa", sum := "4759e4a3f0f8ec1850b22ecba6b5bd14a1a1b9acd97278ce9d93b181e96e036f", func := "bodega/bodegalaw28.TxnRaw", spec := "txnRaw", unfollowed := true, recurses := true, apart := false }
def TxnRawSaid : Prop := txnRawRow.holds Try.pinned (OpenSpec.ofChange txnRawSpec)

/-- ITS FALSE NEIGHBOUR: 'it returns false'. Refute it at one input. -/
def txnRawWrong : ChangeSpec := { name := "txnRaw", fn := fun _ => fun
  | [d1, d2] => { results := [.lit (.bool false)], args := [d1, d2] }
  | _ => none }
def TxnRawWrongFalsely : Prop := txnRawRow.holds Try.pinned (OpenSpec.ofChange txnRawWrong)

/-- 'bodegalaw28.TxnPlays': WHATEVER THE INPUT: true; the input reads as it did. -/
def txnPlaysSpec : ChangeSpec := { name := "txnPlays", fn := fun _ => fun
  | [d1, d2, d3] => { results := [.lit (.bool true)], args := [d1, d2, d3] }
  | _ => none }
def txnPlaysRow : OpenClaim := { program := "ytpfojangcgffkaa", sum := "4759e4a3f0f8ec1850b22ecba6b5bd14a1a1b9acd97278ce9d93b181e96e036f", func := "bodega/bodegalaw28.TxnPlays", spec := "txnPlays", unfollowed := true, recurses := true, apart := false }
def TxnPlaysSaid : Prop := txnPlaysRow.holds Try.pinned (OpenSpec.ofChange txnPlaysSpec)

/-- ITS FALSE NEIGHBOUR: 'it returns false'. Refute it at one input. -/
def txnPlaysWrong : ChangeSpec := { name := "txnPlays", fn := fun _ => fun
  | [d1, d2, d3] => { results := [.lit (.bool false)], args := [d1, d2, d3] }
  | _ => none }
def TxnPlaysWrongFalsely : Prop := txnPlaysRow.holds Try.pinned (OpenSpec.ofChange txnPlaysWrong)

/-- 'bodegalaw28.TxnBlocks': WHATEVER THE INPUT: true; the input reads as it did. -/
def txnBlocksSpec : ChangeSpec := { name := "txnBlocks", fn := fun _ => fun
  | [d1, d2] => { results := [.lit (.bool true)], args := [d1, d2] }
  | _ => none }
def txnBlocksRow : OpenClaim := { program := "ytpfojangcgffkaa", sum := "4759e4a3f0f8ec1850b22ecba6b5bd14a1a1b9acd97278ce9d93b181e96e036f", func := "bodega/bodegalaw28.TxnBlocks", spec := "txnBlocks", unfollowed := true, recurses := true, apart := false }
def TxnBlocksSaid : Prop := txnBlocksRow.holds Try.pinned (OpenSpec.ofChange txnBlocksSpec)

/-- ITS FALSE NEIGHBOUR: 'it returns false'. Refute it at one input. -/
def txnBlocksWrong : ChangeSpec := { name := "txnBlocks", fn := fun _ => fun
  | [d1, d2] => { results := [.lit (.bool false)], args := [d1, d2] }
  | _ => none }
def TxnBlocksWrongFalsely : Prop := txnBlocksRow.holds Try.pinned (OpenSpec.ofChange txnBlocksWrong)

/-- 'bodegalaw28.TxnJobs': WHATEVER THE INPUT: true; the input reads as it did. -/
def txnJobsSpec : ChangeSpec := { name := "txnJobs", fn := fun _ => fun
  | [d1, d2, d3, d4, d5] => { results := [.lit (.bool true)], args := [d1, d2, d3, d4, d5] }
  | _ => none }
def txnJobsRow : OpenClaim := { program := "ytpfojangcgffkaa", sum := "4759e4a3f0f8ec1850b22ecba6b5bd14a1a1b9acd97278ce9d93b181e96e036f", func := "bodega/bodegalaw28.TxnJobs", spec := "txnJobs", unfollowed := true, recurses := true, apart := false }
def TxnJobsSaid : Prop := txnJobsRow.holds Try.pinned (OpenSpec.ofChange txnJobsSpec)

/-- ITS FALSE NEIGHBOUR: 'it returns false'. Refute it at one input. -/
def txnJobsWrong : ChangeSpec := { name := "txnJobs", fn := fun _ => fun
  | [d1, d2, d3, d4, d5] => { results := [.lit (.bool false)], args := [d1, d2, d3, d4, d5] }
  | _ => none }
def TxnJobsWrongFalsely : Prop := txnJobsRow.holds Try.pinned (OpenSpec.ofChange txnJobsWrong)

/- THE SECOND FORM. 'bulk': how many values and letters a reading holds, each counted each time it is reached (what is shared counts as often as it is met; a slice's spare places count too). A statement '..UptoSaid' is the law's where the arguments, and the package variables that the reading takes, are together of bulk at most 1048576: NARROWER than '..Said'. Prove '..Said' where nothing that the law and all that it calls make is longer than what came in: it says more and counts as full. Else prove '..UptoSaid'. A law counts once. -/
mutual
def uptoBulk {H : Type} : DataW H → Nat
  | .lit (.string bytes) => bytes.length + 1
  | .lit _ => 1
  | .nil => 1
  | .ptr d => uptoBulk d + 1
  | .slice elems spare => uptoBulkAll elems + uptoBulkAll spare + 1
  | .agg parts => uptoBulkAll parts + 1
  | .iface _ d => uptoBulk d + 1
  | .map entries => uptoBulkEntries entries + 1
  | .held _ => 1
def uptoBulkAll {H : Type} : List (DataW H) → Nat
  | [] => 0
  | d :: r => uptoBulk d + uptoBulkAll r
def uptoBulkEntries {H : Type} : List (Lit × DataW H) → Nat
  | [] => 0
  | x :: r => uptoBulkEntry x + uptoBulkEntries r
def uptoBulkEntry {H : Type} : Lit × DataW H → Nat
  | (.string bytes, d) => bytes.length + uptoBulk d + 1
  | (_, d) => uptoBulk d + 1
 end
def uptoSmall : (H : Type) → List (DataW H) → Bool := fun _ ds => decide (uptoBulkAll ds ≤ 1048576)
def OpenSpec.upto (s : _root_.Go.ChangeSpec) : _root_.Go.OpenSpec := { _root_.Go.OpenSpec.ofChange s with cond := some uptoSmall }

/-- 'bodegalaw20.SegmentPages', WHERE WHAT IT READS IS OF BULK AT MOST 1048576: true; the input reads as it did. -/
def segmentPagesUptoRow : OpenClaim := { program := "ytpfojangcgffkaa", sum := "4759e4a3f0f8ec1850b22ecba6b5bd14a1a1b9acd97278ce9d93b181e96e036f", func := "bodega/bodegalaw20.SegmentPages", spec := "segmentPages", unfollowed := true, recurses := true, apart := false, narrowed := true }
def SegmentPagesUptoSaid : Prop := segmentPagesUptoRow.holds Try.pinned (OpenSpec.upto segmentPagesSpec)

/-- 'bodegalaw20.SegmentRound', WHERE WHAT IT READS IS OF BULK AT MOST 1048576: true; the input reads as it did. -/
def segmentRoundUptoRow : OpenClaim := { program := "ytpfojangcgffkaa", sum := "4759e4a3f0f8ec1850b22ecba6b5bd14a1a1b9acd97278ce9d93b181e96e036f", func := "bodega/bodegalaw20.SegmentRound", spec := "segmentRound", unfollowed := true, recurses := true, apart := false, narrowed := true }
def SegmentRoundUptoSaid : Prop := segmentRoundUptoRow.holds Try.pinned (OpenSpec.upto segmentRoundSpec)

/-- 'bodegalaw20.SegmentLines', WHERE WHAT IT READS IS OF BULK AT MOST 1048576: true; the input reads as it did. -/
def segmentLinesUptoRow : OpenClaim := { program := "ytpfojangcgffkaa", sum := "4759e4a3f0f8ec1850b22ecba6b5bd14a1a1b9acd97278ce9d93b181e96e036f", func := "bodega/bodegalaw20.SegmentLines", spec := "segmentLines", unfollowed := true, recurses := true, apart := false, narrowed := true }
def SegmentLinesUptoSaid : Prop := segmentLinesUptoRow.holds Try.pinned (OpenSpec.upto segmentLinesSpec)

/-- 'bodegalaw20.SegmentMerges', WHERE WHAT IT READS IS OF BULK AT MOST 1048576: true; the input reads as it did. -/
def segmentMergesUptoRow : OpenClaim := { program := "ytpfojangcgffkaa", sum := "4759e4a3f0f8ec1850b22ecba6b5bd14a1a1b9acd97278ce9d93b181e96e036f", func := "bodega/bodegalaw20.SegmentMerges", spec := "segmentMerges", unfollowed := true, recurses := true, apart := false, narrowed := true }
def SegmentMergesUptoSaid : Prop := segmentMergesUptoRow.holds Try.pinned (OpenSpec.upto segmentMergesSpec)

/-- 'bodegalaw20.SegmentWhole', WHERE WHAT IT READS IS OF BULK AT MOST 1048576: true; the input reads as it did. -/
def segmentWholeUptoRow : OpenClaim := { program := "ytpfojangcgffkaa", sum := "4759e4a3f0f8ec1850b22ecba6b5bd14a1a1b9acd97278ce9d93b181e96e036f", func := "bodega/bodegalaw20.SegmentWhole", spec := "segmentWhole", unfollowed := true, recurses := true, apart := false, narrowed := true }
def SegmentWholeUptoSaid : Prop := segmentWholeUptoRow.holds Try.pinned (OpenSpec.upto segmentWholeSpec)

/-- 'bodegalaw20.SegmentOnce', WHERE WHAT IT READS IS OF BULK AT MOST 1048576: true; the input reads as it did. -/
def segmentOnceUptoRow : OpenClaim := { program := "ytpfojangcgffkaa", sum := "4759e4a3f0f8ec1850b22ecba6b5bd14a1a1b9acd97278ce9d93b181e96e036f", func := "bodega/bodegalaw20.SegmentOnce", spec := "segmentOnce", unfollowed := true, recurses := true, apart := false, narrowed := true }
def SegmentOnceUptoSaid : Prop := segmentOnceUptoRow.holds Try.pinned (OpenSpec.upto segmentOnceSpec)

/-- 'bodegalaw28.TxnRaw', WHERE WHAT IT READS IS OF BULK AT MOST 1048576: true; the input reads as it did. -/
def txnRawUptoRow : OpenClaim := { program := "ytpfojangcgffkaa", sum := "4759e4a3f0f8ec1850b22ecba6b5bd14a1a1b9acd97278ce9d93b181e96e036f", func := "bodega/bodegalaw28.TxnRaw", spec := "txnRaw", unfollowed := true, recurses := true, apart := false, narrowed := true }
def TxnRawUptoSaid : Prop := txnRawUptoRow.holds Try.pinned (OpenSpec.upto txnRawSpec)

/-- 'bodegalaw28.TxnPlays', WHERE WHAT IT READS IS OF BULK AT MOST 1048576: true; the input reads as it did. -/
def txnPlaysUptoRow : OpenClaim := { program := "ytpfojangcgffkaa", sum := "4759e4a3f0f8ec1850b22ecba6b5bd14a1a1b9acd97278ce9d93b181e96e036f", func := "bodega/bodegalaw28.TxnPlays", spec := "txnPlays", unfollowed := true, recurses := true, apart := false, narrowed := true }
def TxnPlaysUptoSaid : Prop := txnPlaysUptoRow.holds Try.pinned (OpenSpec.upto txnPlaysSpec)

/-- 'bodegalaw28.TxnBlocks', WHERE WHAT IT READS IS OF BULK AT MOST 1048576: true; the input reads as it did. -/
def txnBlocksUptoRow : OpenClaim := { program := "ytpfojangcgffkaa", sum := "4759e4a3f0f8ec1850b22ecba6b5bd14a1a1b9acd97278ce9d93b181e96e036f", func := "bodega/bodegalaw28.TxnBlocks", spec := "txnBlocks", unfollowed := true, recurses := true, apart := false, narrowed := true }
def TxnBlocksUptoSaid : Prop := txnBlocksUptoRow.holds Try.pinned (OpenSpec.upto txnBlocksSpec)

/-- 'bodegalaw28.TxnJobs', WHERE WHAT IT READS IS OF BULK AT MOST 1048576: true; the input reads as it did. -/
def txnJobsUptoRow : OpenClaim := { program := "ytpfojangcgffkaa", sum := "4759e4a3f0f8ec1850b22ecba6b5bd14a1a1b9acd97278ce9d93b181e96e036f", func := "bodega/bodegalaw28.TxnJobs", spec := "txnJobs", unfollowed := true, recurses := true, apart := false, narrowed := true }
def TxnJobsUptoSaid : Prop := txnJobsUptoRow.holds Try.pinned (OpenSpec.upto txnJobsSpec)

end Rows
end Go.Proofs.Ytpfojangcgffkaa
