/-
  No cell of these rows narrows 'for every input' (looked for: loops, veiled, ifaces, maps, wideKeys, modest, calm, conditions, laid).
  DERIVED. THE GIVEN ROWS OF THIS SEAT. 5 by the template 'for every input the law returns true; each argument reads behind the call as it read before'; 0 by the template 'total and deterministic' (their statements: YticicecobchdiaaTotals.lean).
  GIVEN WITH THE SEED: the statements are not yours to turn. If you find one false, say at which input.
  Laid BY PROGRAM, IN A SANDBOX (cutbox-rows.mjs): the forced cells as the released guide's own fill.sh prints them over the translation 36fae248da9cb794… (all of the seat's roots in one cut). By AI agents, Wed Nov 11 2026. No macro, syntax, notation, axiom, sorry.
-/
import Derived.Test.YticicecobchdiaaChecked
import GoSem.Claim
import GoSem.ClaimJoined
import GoSem.ClaimMapViews
import Derived.JoinedTies
import Derived.KernelRfl
namespace Go.Proofs.Yticicecobchdiaa
/- THE CELL 'sum', in the pinned program and in every row, IS THE sha256 OF THE DUMP (.gsa) THAT YticicecobchdiaaProg.lean LOADS. Nothing in Lean hashes anything: it is a label: what it is worth is what the hold of that sum in a sandbox is worth. -/
noncomputable def Try.pinned : Pinned := { name := "yticicecobchdiaa", sum := "36fae248da9cb7940bab9bd27726e39c5db3cfc0c7b4e0bca59adbfeb3312e9e", checked := Try.checked }
namespace Rows
def none {H : Type} : Left H := { results := [], args := [] }

/-- 'tilefarmlaw12.HistogramOrderless': WHATEVER THE INPUT: true; the input reads as it did. -/
def histogramOrderlessSpec : ChangeSpec := { name := "histogramOrderless", fn := fun _ => fun
  | [d1, d2] => { results := [.lit (.bool true)], args := [d1, d2] }
  | _ => none }
def histogramOrderlessRow : OpenClaim := { program := "yticicecobchdiaa", sum := "36fae248da9cb7940bab9bd27726e39c5db3cfc0c7b4e0bca59adbfeb3312e9e", func := "tilefarm/tilefarmlaw12.HistogramOrderless", spec := "histogramOrderless", apart := false }
def HistogramOrderlessSaid : Prop := histogramOrderlessRow.holds Try.pinned (OpenSpec.ofChange histogramOrderlessSpec)

/-- ITS FALSE NEIGHBOUR: 'it returns false'. Refute it at one input. -/
def histogramOrderlessWrong : ChangeSpec := { name := "histogramOrderless", fn := fun _ => fun
  | [d1, d2] => { results := [.lit (.bool false)], args := [d1, d2] }
  | _ => none }
def HistogramOrderlessWrongFalsely : Prop := histogramOrderlessRow.holds Try.pinned (OpenSpec.ofChange histogramOrderlessWrong)

/-- 'tilefarmlaw12.HistogramCounts': WHATEVER THE INPUT: true; the input reads as it did. -/
def histogramCountsSpec : ChangeSpec := { name := "histogramCounts", fn := fun _ => fun
  | [d1, d2, d3, d4, d5] => { results := [.lit (.bool true)], args := [d1, d2, d3, d4, d5] }
  | _ => none }
def histogramCountsRow : OpenClaim := { program := "yticicecobchdiaa", sum := "36fae248da9cb7940bab9bd27726e39c5db3cfc0c7b4e0bca59adbfeb3312e9e", func := "tilefarm/tilefarmlaw12.HistogramCounts", spec := "histogramCounts", apart := false }
def HistogramCountsSaid : Prop := histogramCountsRow.holds Try.pinned (OpenSpec.ofChange histogramCountsSpec)

/-- ITS FALSE NEIGHBOUR: 'it returns false'. Refute it at one input. -/
def histogramCountsWrong : ChangeSpec := { name := "histogramCounts", fn := fun _ => fun
  | [d1, d2, d3, d4, d5] => { results := [.lit (.bool false)], args := [d1, d2, d3, d4, d5] }
  | _ => none }
def HistogramCountsWrongFalsely : Prop := histogramCountsRow.holds Try.pinned (OpenSpec.ofChange histogramCountsWrong)

/-- 'tilefarmlaw12.HistogramMerges': WHATEVER THE INPUT: true; the input reads as it did. -/
def histogramMergesSpec : ChangeSpec := { name := "histogramMerges", fn := fun _ => fun
  | [d1, d2] => { results := [.lit (.bool true)], args := [d1, d2] }
  | _ => none }
def histogramMergesRow : OpenClaim := { program := "yticicecobchdiaa", sum := "36fae248da9cb7940bab9bd27726e39c5db3cfc0c7b4e0bca59adbfeb3312e9e", func := "tilefarm/tilefarmlaw12.HistogramMerges", spec := "histogramMerges", apart := false }
def HistogramMergesSaid : Prop := histogramMergesRow.holds Try.pinned (OpenSpec.ofChange histogramMergesSpec)

/-- ITS FALSE NEIGHBOUR: 'it returns false'. Refute it at one input. -/
def histogramMergesWrong : ChangeSpec := { name := "histogramMerges", fn := fun _ => fun
  | [d1, d2] => { results := [.lit (.bool false)], args := [d1, d2] }
  | _ => none }
def HistogramMergesWrongFalsely : Prop := histogramMergesRow.holds Try.pinned (OpenSpec.ofChange histogramMergesWrong)

/-- 'tilefarmlaw12.HistogramBins': WHATEVER THE INPUT: true; the input reads as it did. -/
def histogramBinsSpec : ChangeSpec := { name := "histogramBins", fn := fun _ => fun
  | [d1, d2, d3, d4] => { results := [.lit (.bool true)], args := [d1, d2, d3, d4] }
  | _ => none }
def histogramBinsRow : OpenClaim := { program := "yticicecobchdiaa", sum := "36fae248da9cb7940bab9bd27726e39c5db3cfc0c7b4e0bca59adbfeb3312e9e", func := "tilefarm/tilefarmlaw12.HistogramBins", spec := "histogramBins", apart := false }
def HistogramBinsSaid : Prop := histogramBinsRow.holds Try.pinned (OpenSpec.ofChange histogramBinsSpec)

/-- ITS FALSE NEIGHBOUR: 'it returns false'. Refute it at one input. -/
def histogramBinsWrong : ChangeSpec := { name := "histogramBins", fn := fun _ => fun
  | [d1, d2, d3, d4] => { results := [.lit (.bool false)], args := [d1, d2, d3, d4] }
  | _ => none }
def HistogramBinsWrongFalsely : Prop := histogramBinsRow.holds Try.pinned (OpenSpec.ofChange histogramBinsWrong)

/-- 'tilefarmlaw12.HistogramTiles': WHATEVER THE INPUT: true; the input reads as it did. -/
def histogramTilesSpec : ChangeSpec := { name := "histogramTiles", fn := fun _ => fun
  | [d1, d2] => { results := [.lit (.bool true)], args := [d1, d2] }
  | _ => none }
def histogramTilesRow : OpenClaim := { program := "yticicecobchdiaa", sum := "36fae248da9cb7940bab9bd27726e39c5db3cfc0c7b4e0bca59adbfeb3312e9e", func := "tilefarm/tilefarmlaw12.HistogramTiles", spec := "histogramTiles", apart := false }
def HistogramTilesSaid : Prop := histogramTilesRow.holds Try.pinned (OpenSpec.ofChange histogramTilesSpec)

/-- ITS FALSE NEIGHBOUR: 'it returns false'. Refute it at one input. -/
def histogramTilesWrong : ChangeSpec := { name := "histogramTiles", fn := fun _ => fun
  | [d1, d2] => { results := [.lit (.bool false)], args := [d1, d2] }
  | _ => none }
def HistogramTilesWrongFalsely : Prop := histogramTilesRow.holds Try.pinned (OpenSpec.ofChange histogramTilesWrong)

/- THE SECOND FORM. 'bulk': how many values and letters a reading holds, each counted each time it is reached (what is shared counts as often as it is met; a slice's spare places count too). A statement '..UptoSaid' is the law's where the arguments, and the package variables that the reading takes, are together of bulk at most 1048576: NARROWER than '..Said'. Prove '..Said' where nothing that the law and all that it calls make is longer than what came in: it says more and counts as full. Else prove '..UptoSaid'. A law counts once. -/
mutual
def uptoBulk {H : Type} : DataW H → Nat
  | .lit (.string bytes) => bytes.length + 1
  | .lit _ => 1
  | .nil => 1
  | .ptr d => uptoBulk d + 1
  | .slice elems spare => uptoBulkAll elems + uptoBulkAll spare + 1
  | .agg parts => uptoBulkAll parts + 1
  | .iface _ d => uptoBulk d + 1
  | .map entries => uptoBulkEntries entries + 1
  | .held _ => 1
def uptoBulkAll {H : Type} : List (DataW H) → Nat
  | [] => 0
  | d :: r => uptoBulk d + uptoBulkAll r
def uptoBulkEntries {H : Type} : List (Lit × DataW H) → Nat
  | [] => 0
  | x :: r => uptoBulkEntry x + uptoBulkEntries r
def uptoBulkEntry {H : Type} : Lit × DataW H → Nat
  | (.string bytes, d) => bytes.length + uptoBulk d + 1
  | (_, d) => uptoBulk d + 1
 end
def uptoSmall : (H : Type) → List (DataW H) → Bool := fun _ ds => decide (uptoBulkAll ds ≤ 1048576)
def OpenSpec.upto (s : _root_.Go.ChangeSpec) : _root_.Go.OpenSpec := { _root_.Go.OpenSpec.ofChange s with cond := some uptoSmall }

/-- 'tilefarmlaw12.HistogramOrderless', WHERE WHAT IT READS IS OF BULK AT MOST 1048576: true; the input reads as it did. -/
def histogramOrderlessUptoRow : OpenClaim := { program := "yticicecobchdiaa", sum := "36fae248da9cb7940bab9bd27726e39c5db3cfc0c7b4e0bca59adbfeb3312e9e", func := "tilefarm/tilefarmlaw12.HistogramOrderless", spec := "histogramOrderless", apart := false, narrowed := true }
def HistogramOrderlessUptoSaid : Prop := histogramOrderlessUptoRow.holds Try.pinned (OpenSpec.upto histogramOrderlessSpec)

/-- 'tilefarmlaw12.HistogramCounts', WHERE WHAT IT READS IS OF BULK AT MOST 1048576: true; the input reads as it did. -/
def histogramCountsUptoRow : OpenClaim := { program := "yticicecobchdiaa", sum := "36fae248da9cb7940bab9bd27726e39c5db3cfc0c7b4e0bca59adbfeb3312e9e", func := "tilefarm/tilefarmlaw12.HistogramCounts", spec := "histogramCounts", apart := false, narrowed := true }
def HistogramCountsUptoSaid : Prop := histogramCountsUptoRow.holds Try.pinned (OpenSpec.upto histogramCountsSpec)

/-- 'tilefarmlaw12.HistogramMerges', WHERE WHAT IT READS IS OF BULK AT MOST 1048576: true; the input reads as it did. -/
def histogramMergesUptoRow : OpenClaim := { program := "yticicecobchdiaa", sum := "36fae248da9cb7940bab9bd27726e39c5db3cfc0c7b4e0bca59adbfeb3312e9e", func := "tilefarm/tilefarmlaw12.HistogramMerges", spec := "histogramMerges", apart := false, narrowed := true }
def HistogramMergesUptoSaid : Prop := histogramMergesUptoRow.holds Try.pinned (OpenSpec.upto histogramMergesSpec)

/-- 'tilefarmlaw12.HistogramBins', WHERE WHAT IT READS IS OF BULK AT MOST 1048576: true; the input reads as it did. -/
def histogramBinsUptoRow : OpenClaim := { program := "yticicecobchdiaa", sum := "36fae248da9cb7940bab9bd27726e39c5db3cfc0c7b4e0bca59adbfeb3312e9e", func := "tilefarm/tilefarmlaw12.HistogramBins", spec := "histogramBins", apart := false, narrowed := true }
def HistogramBinsUptoSaid : Prop := histogramBinsUptoRow.holds Try.pinned (OpenSpec.upto histogramBinsSpec)

/-- 'tilefarmlaw12.HistogramTiles', WHERE WHAT IT READS IS OF BULK AT MOST 1048576: true; the input reads as it did. -/
def histogramTilesUptoRow : OpenClaim := { program := "yticicecobchdiaa", sum := "36fae248da9cb7940bab9bd27726e39c5db3cfc0c7b4e0bca59adbfeb3312e9e", func := "tilefarm/tilefarmlaw12.HistogramTiles", spec := "histogramTiles", apart := false, narrowed := true }
def HistogramTilesUptoSaid : Prop := histogramTilesUptoRow.holds Try.pinned (OpenSpec.upto histogramTilesSpec)

end Rows
end Go.Proofs.Yticicecobchdiaa
