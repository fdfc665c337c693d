/-
  No cell of these rows narrows 'for every input' (looked for: loops, veiled, ifaces, maps, wideKeys, modest, calm, conditions, laid).
  DERIVED. THE GIVEN ROWS OF THIS SEAT. 5 by the template 'for every input the law returns true; each argument reads behind the call as it read before'; 0 by the template 'total and deterministic' (their statements: YtkipnpgcpohlcaaTotals.lean).
  GIVEN WITH THE SEED: the statements are not yours to turn. If you find one false, say at which input.
  Laid BY PROGRAM, IN A SANDBOX (cutbox-rows.mjs): the forced cells as the released guide's own fill.sh prints them over the translation 87b646646d454edc… (all of the seat's roots in one cut). By AI agents, Wed Nov 11 2026. No macro, syntax, notation, axiom, sorry.
-/
import Derived.Test.YtkipnpgcpohlcaaChecked
import GoSem.Claim
import GoSem.ClaimJoined
import GoSem.ClaimMapViews
import Derived.JoinedTies
import Derived.KernelRfl
namespace Go.Proofs.Ytkipnpgcpohlcaa
/- THE CELL 'sum', in the pinned program and in every row, IS THE sha256 OF THE DUMP (.gsa) THAT YtkipnpgcpohlcaaProg.lean LOADS. Nothing in Lean hashes anything: it is a label: what it is worth is what the hold of that sum in a sandbox is worth. -/
noncomputable def Try.pinned : Pinned := { name := "ytkipnpgcpohlcaa", sum := "87b646646d454edc650d73601bb6af31a761d921853381857833b560ef1f04dd", checked := Try.checked }
namespace Rows
def none {H : Type} : Left H := { results := [], args := [] }

/-- 'tilefarmlaw13.IntegralMonotone': WHATEVER THE INPUT: true; the input reads as it did. -/
def integralMonotoneSpec : ChangeSpec := { name := "integralMonotone", fn := fun _ => fun
  | [d] => { results := [.lit (.bool true)], args := [d] }
  | _ => none }
def integralMonotoneRow : OpenClaim := { program := "ytkipnpgcpohlcaa", sum := "87b646646d454edc650d73601bb6af31a761d921853381857833b560ef1f04dd", func := "tilefarm/tilefarmlaw13.IntegralMonotone", spec := "integralMonotone", unfollowed := true, recurses := true, apart := false }
def IntegralMonotoneSaid : Prop := integralMonotoneRow.holds Try.pinned (OpenSpec.ofChange integralMonotoneSpec)

/-- ITS FALSE NEIGHBOUR: 'it returns false'. Refute it at one input. -/
def integralMonotoneWrong : ChangeSpec := { name := "integralMonotone", fn := fun _ => fun
  | [d] => { results := [.lit (.bool false)], args := [d] }
  | _ => none }
def IntegralMonotoneWrongFalsely : Prop := integralMonotoneRow.holds Try.pinned (OpenSpec.ofChange integralMonotoneWrong)

/-- 'tilefarmlaw13.IntegralWhole': WHATEVER THE INPUT: true; the input reads as it did. -/
def integralWholeSpec : ChangeSpec := { name := "integralWhole", fn := fun _ => fun
  | [d1, d2, d3] => { results := [.lit (.bool true)], args := [d1, d2, d3] }
  | _ => none }
def integralWholeRow : OpenClaim := { program := "ytkipnpgcpohlcaa", sum := "87b646646d454edc650d73601bb6af31a761d921853381857833b560ef1f04dd", func := "tilefarm/tilefarmlaw13.IntegralWhole", spec := "integralWhole", unfollowed := true, recurses := true, apart := false }
def IntegralWholeSaid : Prop := integralWholeRow.holds Try.pinned (OpenSpec.ofChange integralWholeSpec)

/-- ITS FALSE NEIGHBOUR: 'it returns false'. Refute it at one input. -/
def integralWholeWrong : ChangeSpec := { name := "integralWhole", fn := fun _ => fun
  | [d1, d2, d3] => { results := [.lit (.bool false)], args := [d1, d2, d3] }
  | _ => none }
def IntegralWholeWrongFalsely : Prop := integralWholeRow.holds Try.pinned (OpenSpec.ofChange integralWholeWrong)

/-- 'tilefarmlaw13.IntegralTiles': WHATEVER THE INPUT: true; the input reads as it did. -/
def integralTilesSpec : ChangeSpec := { name := "integralTiles", fn := fun _ => fun
  | [d1, d2, d3, d4] => { results := [.lit (.bool true)], args := [d1, d2, d3, d4] }
  | _ => none }
def integralTilesRow : OpenClaim := { program := "ytkipnpgcpohlcaa", sum := "87b646646d454edc650d73601bb6af31a761d921853381857833b560ef1f04dd", func := "tilefarm/tilefarmlaw13.IntegralTiles", spec := "integralTiles", unfollowed := true, recurses := true, apart := false }
def IntegralTilesSaid : Prop := integralTilesRow.holds Try.pinned (OpenSpec.ofChange integralTilesSpec)

/-- ITS FALSE NEIGHBOUR: 'it returns false'. Refute it at one input. -/
def integralTilesWrong : ChangeSpec := { name := "integralTiles", fn := fun _ => fun
  | [d1, d2, d3, d4] => { results := [.lit (.bool false)], args := [d1, d2, d3, d4] }
  | _ => none }
def IntegralTilesWrongFalsely : Prop := integralTilesRow.holds Try.pinned (OpenSpec.ofChange integralTilesWrong)

/-- 'tilefarmlaw13.IntegralSums': WHATEVER THE INPUT: true; the input reads as it did. -/
def integralSumsSpec : ChangeSpec := { name := "integralSums", fn := fun _ => fun
  | [d] => { results := [.lit (.bool true)], args := [d] }
  | _ => none }
def integralSumsRow : OpenClaim := { program := "ytkipnpgcpohlcaa", sum := "87b646646d454edc650d73601bb6af31a761d921853381857833b560ef1f04dd", func := "tilefarm/tilefarmlaw13.IntegralSums", spec := "integralSums", unfollowed := true, recurses := true, apart := false }
def IntegralSumsSaid : Prop := integralSumsRow.holds Try.pinned (OpenSpec.ofChange integralSumsSpec)

/-- ITS FALSE NEIGHBOUR: 'it returns false'. Refute it at one input. -/
def integralSumsWrong : ChangeSpec := { name := "integralSums", fn := fun _ => fun
  | [d] => { results := [.lit (.bool false)], args := [d] }
  | _ => none }
def IntegralSumsWrongFalsely : Prop := integralSumsRow.holds Try.pinned (OpenSpec.ofChange integralSumsWrong)

/-- 'tilefarmlaw13.IntegralGrows': WHATEVER THE INPUT: true; the input reads as it did. -/
def integralGrowsSpec : ChangeSpec := { name := "integralGrows", fn := fun _ => fun
  | [d] => { results := [.lit (.bool true)], args := [d] }
  | _ => none }
def integralGrowsRow : OpenClaim := { program := "ytkipnpgcpohlcaa", sum := "87b646646d454edc650d73601bb6af31a761d921853381857833b560ef1f04dd", func := "tilefarm/tilefarmlaw13.IntegralGrows", spec := "integralGrows", unfollowed := true, recurses := true, apart := false }
def IntegralGrowsSaid : Prop := integralGrowsRow.holds Try.pinned (OpenSpec.ofChange integralGrowsSpec)

/-- ITS FALSE NEIGHBOUR: 'it returns false'. Refute it at one input. -/
def integralGrowsWrong : ChangeSpec := { name := "integralGrows", fn := fun _ => fun
  | [d] => { results := [.lit (.bool false)], args := [d] }
  | _ => none }
def IntegralGrowsWrongFalsely : Prop := integralGrowsRow.holds Try.pinned (OpenSpec.ofChange integralGrowsWrong)

/- THE SECOND FORM. 'bulk': how many values and letters a reading holds, each counted each time it is reached (what is shared counts as often as it is met; a slice's spare places count too). A statement '..UptoSaid' is the law's where the arguments, and the package variables that the reading takes, are together of bulk at most 1048576: NARROWER than '..Said'. Prove '..Said' where nothing that the law and all that it calls make is longer than what came in: it says more and counts as full. Else prove '..UptoSaid'. A law counts once. -/
mutual
def uptoBulk {H : Type} : DataW H → Nat
  | .lit (.string bytes) => bytes.length + 1
  | .lit _ => 1
  | .nil => 1
  | .ptr d => uptoBulk d + 1
  | .slice elems spare => uptoBulkAll elems + uptoBulkAll spare + 1
  | .agg parts => uptoBulkAll parts + 1
  | .iface _ d => uptoBulk d + 1
  | .map entries => uptoBulkEntries entries + 1
  | .held _ => 1
def uptoBulkAll {H : Type} : List (DataW H) → Nat
  | [] => 0
  | d :: r => uptoBulk d + uptoBulkAll r
def uptoBulkEntries {H : Type} : List (Lit × DataW H) → Nat
  | [] => 0
  | x :: r => uptoBulkEntry x + uptoBulkEntries r
def uptoBulkEntry {H : Type} : Lit × DataW H → Nat
  | (.string bytes, d) => bytes.length + uptoBulk d + 1
  | (_, d) => uptoBulk d + 1
 end
def uptoSmall : (H : Type) → List (DataW H) → Bool := fun _ ds => decide (uptoBulkAll ds ≤ 1048576)
def OpenSpec.upto (s : _root_.Go.ChangeSpec) : _root_.Go.OpenSpec := { _root_.Go.OpenSpec.ofChange s with cond := some uptoSmall }

/-- 'tilefarmlaw13.IntegralMonotone', WHERE WHAT IT READS IS OF BULK AT MOST 1048576: true; the input reads as it did. -/
def integralMonotoneUptoRow : OpenClaim := { program := "ytkipnpgcpohlcaa", sum := "87b646646d454edc650d73601bb6af31a761d921853381857833b560ef1f04dd", func := "tilefarm/tilefarmlaw13.IntegralMonotone", spec := "integralMonotone", unfollowed := true, recurses := true, apart := false, narrowed := true }
def IntegralMonotoneUptoSaid : Prop := integralMonotoneUptoRow.holds Try.pinned (OpenSpec.upto integralMonotoneSpec)

/-- 'tilefarmlaw13.IntegralWhole', WHERE WHAT IT READS IS OF BULK AT MOST 1048576: true; the input reads as it did. -/
def integralWholeUptoRow : OpenClaim := { program := "ytkipnpgcpohlcaa", sum := "87b646646d454edc650d73601bb6af31a761d921853381857833b560ef1f04dd", func := "tilefarm/tilefarmlaw13.IntegralWhole", spec := "integralWhole", unfollowed := true, recurses := true, apart := false, narrowed := true }
def IntegralWholeUptoSaid : Prop := integralWholeUptoRow.holds Try.pinned (OpenSpec.upto integralWholeSpec)

/-- 'tilefarmlaw13.IntegralTiles', WHERE WHAT IT READS IS OF BULK AT MOST 1048576: true; the input reads as it did. -/
def integralTilesUptoRow : OpenClaim := { program := "ytkipnpgcpohlcaa", sum := "87b646646d454edc650d73601bb6af31a761d921853381857833b560ef1f04dd", func := "tilefarm/tilefarmlaw13.IntegralTiles", spec := "integralTiles", unfollowed := true, recurses := true, apart := false, narrowed := true }
def IntegralTilesUptoSaid : Prop := integralTilesUptoRow.holds Try.pinned (OpenSpec.upto integralTilesSpec)

/-- 'tilefarmlaw13.IntegralSums', WHERE WHAT IT READS IS OF BULK AT MOST 1048576: true; the input reads as it did. -/
def integralSumsUptoRow : OpenClaim := { program := "ytkipnpgcpohlcaa", sum := "87b646646d454edc650d73601bb6af31a761d921853381857833b560ef1f04dd", func := "tilefarm/tilefarmlaw13.IntegralSums", spec := "integralSums", unfollowed := true, recurses := true, apart := false, narrowed := true }
def IntegralSumsUptoSaid : Prop := integralSumsUptoRow.holds Try.pinned (OpenSpec.upto integralSumsSpec)

/-- 'tilefarmlaw13.IntegralGrows', WHERE WHAT IT READS IS OF BULK AT MOST 1048576: true; the input reads as it did. -/
def integralGrowsUptoRow : OpenClaim := { program := "ytkipnpgcpohlcaa", sum := "87b646646d454edc650d73601bb6af31a761d921853381857833b560ef1f04dd", func := "tilefarm/tilefarmlaw13.IntegralGrows", spec := "integralGrows", unfollowed := true, recurses := true, apart := false, narrowed := true }
def IntegralGrowsUptoSaid : Prop := integralGrowsUptoRow.holds Try.pinned (OpenSpec.upto integralGrowsSpec)

end Rows
end Go.Proofs.Ytkipnpgcpohlcaa
