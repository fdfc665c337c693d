/-
  No cell of these rows narrows 'for every input' (looked for: loops, veiled, ifaces, maps, wideKeys, modest, calm, conditions, laid).
  DERIVED. THE GIVEN ROWS OF THIS SEAT. 4 by the template 'for every input the law returns true; each argument reads behind the call as it read before'; 0 by the template 'total and deterministic' (their statements: YtikpmojofdndnaaTotals.lean).
  GIVEN WITH THE SEED: the statements are not yours to turn. If you find one false, say at which input.
  Laid BY PROGRAM, IN A SANDBOX (cutbox-rows.mjs): the forced cells as the released guide's own fill.sh prints them over the translation 764f56af87427779… (all of the seat's roots in one cut). By AI agents, Wed Nov 11 2026. No macro, syntax, notation, axiom, sorry.
-/
import Derived.Test.YtikpmojofdndnaaChecked
import GoSem.Claim
import GoSem.ClaimJoined
import GoSem.ClaimMapViews
import Derived.JoinedTies
import Derived.KernelRfl
namespace Go.Proofs.Ytikpmojofdndnaa
/- THE CELL 'sum', in the pinned program and in every row, IS THE sha256 OF THE DUMP (.gsa) THAT YtikpmojofdndnaaProg.lean LOADS. Nothing in Lean hashes anything: it is a label: what it is worth is what the hold of that sum in a sandbox is worth. -/
noncomputable def Try.pinned : Pinned := { name := "ytikpmojofdndnaa", sum := "764f56af87427779b9e96b881a3dbdf875fbf3da64abea2bd86b72cacddc8628", checked := Try.checked }
namespace Rows
def none {H : Type} : Left H := { results := [], args := [] }

/-- 'tilefarmlaw5.GridOrder': WHATEVER THE INPUT: true; the input reads as it did. -/
def gridOrderSpec : ChangeSpec := { name := "gridOrder", fn := fun _ => fun
  | [d1, d2, d3, d4, d5, d6, d7] => { results := [.lit (.bool true)], args := [d1, d2, d3, d4, d5, d6, d7] }
  | _ => none }
def gridOrderRow : OpenClaim := { program := "ytikpmojofdndnaa", sum := "764f56af87427779b9e96b881a3dbdf875fbf3da64abea2bd86b72cacddc8628", func := "tilefarm/tilefarmlaw5.GridOrder", spec := "gridOrder", apart := false }
def GridOrderSaid : Prop := gridOrderRow.holds Try.pinned (OpenSpec.ofChange gridOrderSpec)

/-- ITS FALSE NEIGHBOUR: 'it returns false'. Refute it at one input. -/
def gridOrderWrong : ChangeSpec := { name := "gridOrder", fn := fun _ => fun
  | [d1, d2, d3, d4, d5, d6, d7] => { results := [.lit (.bool false)], args := [d1, d2, d3, d4, d5, d6, d7] }
  | _ => none }
def GridOrderWrongFalsely : Prop := gridOrderRow.holds Try.pinned (OpenSpec.ofChange gridOrderWrong)

/-- 'tilefarmlaw5.GridTiles': WHATEVER THE INPUT: true; the input reads as it did. -/
def gridTilesSpec : ChangeSpec := { name := "gridTiles", fn := fun _ => fun
  | [d1, d2, d3, d4, d5, d6, d7, d8, d9] => { results := [.lit (.bool true)], args := [d1, d2, d3, d4, d5, d6, d7, d8, d9] }
  | _ => none }
def gridTilesRow : OpenClaim := { program := "ytikpmojofdndnaa", sum := "764f56af87427779b9e96b881a3dbdf875fbf3da64abea2bd86b72cacddc8628", func := "tilefarm/tilefarmlaw5.GridTiles", spec := "gridTiles", apart := false }
def GridTilesSaid : Prop := gridTilesRow.holds Try.pinned (OpenSpec.ofChange gridTilesSpec)

/-- ITS FALSE NEIGHBOUR: 'it returns false'. Refute it at one input. -/
def gridTilesWrong : ChangeSpec := { name := "gridTiles", fn := fun _ => fun
  | [d1, d2, d3, d4, d5, d6, d7, d8, d9] => { results := [.lit (.bool false)], args := [d1, d2, d3, d4, d5, d6, d7, d8, d9] }
  | _ => none }
def GridTilesWrongFalsely : Prop := gridTilesRow.holds Try.pinned (OpenSpec.ofChange gridTilesWrong)

/-- 'tilefarmlaw5.GridPartition': WHATEVER THE INPUT: true; the input reads as it did. -/
def gridPartitionSpec : ChangeSpec := { name := "gridPartition", fn := fun _ => fun
  | [d1, d2, d3, d4, d5] => { results := [.lit (.bool true)], args := [d1, d2, d3, d4, d5] }
  | _ => none }
def gridPartitionRow : OpenClaim := { program := "ytikpmojofdndnaa", sum := "764f56af87427779b9e96b881a3dbdf875fbf3da64abea2bd86b72cacddc8628", func := "tilefarm/tilefarmlaw5.GridPartition", spec := "gridPartition", apart := false }
def GridPartitionSaid : Prop := gridPartitionRow.holds Try.pinned (OpenSpec.ofChange gridPartitionSpec)

/-- ITS FALSE NEIGHBOUR: 'it returns false'. Refute it at one input. -/
def gridPartitionWrong : ChangeSpec := { name := "gridPartition", fn := fun _ => fun
  | [d1, d2, d3, d4, d5] => { results := [.lit (.bool false)], args := [d1, d2, d3, d4, d5] }
  | _ => none }
def GridPartitionWrongFalsely : Prop := gridPartitionRow.holds Try.pinned (OpenSpec.ofChange gridPartitionWrong)

/-- 'tilefarmlaw5.GridTouches': WHATEVER THE INPUT: true; the input reads as it did. -/
def gridTouchesSpec : ChangeSpec := { name := "gridTouches", fn := fun _ => fun
  | [d1, d2, d3] => { results := [.lit (.bool true)], args := [d1, d2, d3] }
  | _ => none }
def gridTouchesRow : OpenClaim := { program := "ytikpmojofdndnaa", sum := "764f56af87427779b9e96b881a3dbdf875fbf3da64abea2bd86b72cacddc8628", func := "tilefarm/tilefarmlaw5.GridTouches", spec := "gridTouches", apart := false }
def GridTouchesSaid : Prop := gridTouchesRow.holds Try.pinned (OpenSpec.ofChange gridTouchesSpec)

/-- ITS FALSE NEIGHBOUR: 'it returns false'. Refute it at one input. -/
def gridTouchesWrong : ChangeSpec := { name := "gridTouches", fn := fun _ => fun
  | [d1, d2, d3] => { results := [.lit (.bool false)], args := [d1, d2, d3] }
  | _ => none }
def GridTouchesWrongFalsely : Prop := gridTouchesRow.holds Try.pinned (OpenSpec.ofChange gridTouchesWrong)

/- THE SECOND FORM. 'bulk': how many values and letters a reading holds, each counted each time it is reached (what is shared counts as often as it is met; a slice's spare places count too). A statement '..UptoSaid' is the law's where the arguments, and the package variables that the reading takes, are together of bulk at most 1048576: NARROWER than '..Said'. Prove '..Said' where nothing that the law and all that it calls make is longer than what came in: it says more and counts as full. Else prove '..UptoSaid'. A law counts once. -/
mutual
def uptoBulk {H : Type} : DataW H → Nat
  | .lit (.string bytes) => bytes.length + 1
  | .lit _ => 1
  | .nil => 1
  | .ptr d => uptoBulk d + 1
  | .slice elems spare => uptoBulkAll elems + uptoBulkAll spare + 1
  | .agg parts => uptoBulkAll parts + 1
  | .iface _ d => uptoBulk d + 1
  | .map entries => uptoBulkEntries entries + 1
  | .held _ => 1
def uptoBulkAll {H : Type} : List (DataW H) → Nat
  | [] => 0
  | d :: r => uptoBulk d + uptoBulkAll r
def uptoBulkEntries {H : Type} : List (Lit × DataW H) → Nat
  | [] => 0
  | x :: r => uptoBulkEntry x + uptoBulkEntries r
def uptoBulkEntry {H : Type} : Lit × DataW H → Nat
  | (.string bytes, d) => bytes.length + uptoBulk d + 1
  | (_, d) => uptoBulk d + 1
 end
def uptoSmall : (H : Type) → List (DataW H) → Bool := fun _ ds => decide (uptoBulkAll ds ≤ 1048576)
def OpenSpec.upto (s : _root_.Go.ChangeSpec) : _root_.Go.OpenSpec := { _root_.Go.OpenSpec.ofChange s with cond := some uptoSmall }

/-- 'tilefarmlaw5.GridOrder', WHERE WHAT IT READS IS OF BULK AT MOST 1048576: true; the input reads as it did. -/
def gridOrderUptoRow : OpenClaim := { program := "ytikpmojofdndnaa", sum := "764f56af87427779b9e96b881a3dbdf875fbf3da64abea2bd86b72cacddc8628", func := "tilefarm/tilefarmlaw5.GridOrder", spec := "gridOrder", apart := false, narrowed := true }
def GridOrderUptoSaid : Prop := gridOrderUptoRow.holds Try.pinned (OpenSpec.upto gridOrderSpec)

/-- 'tilefarmlaw5.GridTiles', WHERE WHAT IT READS IS OF BULK AT MOST 1048576: true; the input reads as it did. -/
def gridTilesUptoRow : OpenClaim := { program := "ytikpmojofdndnaa", sum := "764f56af87427779b9e96b881a3dbdf875fbf3da64abea2bd86b72cacddc8628", func := "tilefarm/tilefarmlaw5.GridTiles", spec := "gridTiles", apart := false, narrowed := true }
def GridTilesUptoSaid : Prop := gridTilesUptoRow.holds Try.pinned (OpenSpec.upto gridTilesSpec)

/-- 'tilefarmlaw5.GridPartition', WHERE WHAT IT READS IS OF BULK AT MOST 1048576: true; the input reads as it did. -/
def gridPartitionUptoRow : OpenClaim := { program := "ytikpmojofdndnaa", sum := "764f56af87427779b9e96b881a3dbdf875fbf3da64abea2bd86b72cacddc8628", func := "tilefarm/tilefarmlaw5.GridPartition", spec := "gridPartition", apart := false, narrowed := true }
def GridPartitionUptoSaid : Prop := gridPartitionUptoRow.holds Try.pinned (OpenSpec.upto gridPartitionSpec)

/-- 'tilefarmlaw5.GridTouches', WHERE WHAT IT READS IS OF BULK AT MOST 1048576: true; the input reads as it did. -/
def gridTouchesUptoRow : OpenClaim := { program := "ytikpmojofdndnaa", sum := "764f56af87427779b9e96b881a3dbdf875fbf3da64abea2bd86b72cacddc8628", func := "tilefarm/tilefarmlaw5.GridTouches", spec := "gridTouches", apart := false, narrowed := true }
def GridTouchesUptoSaid : Prop := gridTouchesUptoRow.holds Try.pinned (OpenSpec.upto gridTouchesSpec)

end Rows
end Go.Proofs.Ytikpmojofdndnaa
