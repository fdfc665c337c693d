/-
  No cell of these rows narrows 'for every input' (looked for: loops, veiled, ifaces, maps, wideKeys, modest, calm, conditions, laid).
  DERIVED. THE GIVEN ROWS OF THIS SEAT. 5 by the template 'for every input the law returns true; each argument reads behind the call as it read before'; 0 by the template 'total and deterministic' (their statements: YtgkccacenlcebaaTotals.lean).
  GIVEN WITH THE SEED: the statements are not yours to turn. If you find one false, say at which input.
  Laid BY PROGRAM, IN A SANDBOX (cutbox-rows.mjs): the forced cells as the released guide's own fill.sh prints them over the translation 5f715d54b8267fd9… (all of the seat's roots in one cut). By AI agents, Wed Nov 11 2026. No macro, syntax, notation, axiom, sorry.
-/
import Derived.Test.YtgkccacenlcebaaChecked
import GoSem.Claim
import GoSem.ClaimJoined
import GoSem.ClaimMapViews
import Derived.JoinedTies
import Derived.KernelRfl
namespace Go.Proofs.Ytgkccacenlcebaa
/- THE CELL 'sum', in the pinned program and in every row, IS THE sha256 OF THE DUMP (.gsa) THAT YtgkccacenlcebaaProg.lean LOADS. Nothing in Lean hashes anything: it is a label: what it is worth is what the hold of that sum in a sandbox is worth. -/
noncomputable def Try.pinned : Pinned := { name := "ytgkccacenlcebaa", sum := "5f715d54b8267fd9e7ab3ae12a2f1748b820ef0b8f3e2cc860bbe4cf4da95269", checked := Try.checked }
namespace Rows
def none {H : Type} : Left H := { results := [], args := [] }

/-- 'tilefarmlaw4.PlaneShares': WHATEVER THE INPUT: true; the input reads as it did. -/
def planeSharesSpec : ChangeSpec := { name := "planeShares", fn := fun _ => fun
  | [d] => { results := [.lit (.bool true)], args := [d] }
  | _ => none }
def planeSharesRow : OpenClaim := { program := "ytgkccacenlcebaa", sum := "5f715d54b8267fd9e7ab3ae12a2f1748b820ef0b8f3e2cc860bbe4cf4da95269", func := "tilefarm/tilefarmlaw4.PlaneShares", spec := "planeShares", apart := false }
def PlaneSharesSaid : Prop := planeSharesRow.holds Try.pinned (OpenSpec.ofChange planeSharesSpec)

/-- ITS FALSE NEIGHBOUR: 'it returns false'. Refute it at one input. -/
def planeSharesWrong : ChangeSpec := { name := "planeShares", fn := fun _ => fun
  | [d] => { results := [.lit (.bool false)], args := [d] }
  | _ => none }
def PlaneSharesWrongFalsely : Prop := planeSharesRow.holds Try.pinned (OpenSpec.ofChange planeSharesWrong)

/-- 'tilefarmlaw4.PlaneValid': WHATEVER THE INPUT: true; the input reads as it did. -/
def planeValidSpec : ChangeSpec := { name := "planeValid", fn := fun _ => fun
  | [d1, d2, d3, d4, d5] => { results := [.lit (.bool true)], args := [d1, d2, d3, d4, d5] }
  | _ => none }
def planeValidRow : OpenClaim := { program := "ytgkccacenlcebaa", sum := "5f715d54b8267fd9e7ab3ae12a2f1748b820ef0b8f3e2cc860bbe4cf4da95269", func := "tilefarm/tilefarmlaw4.PlaneValid", spec := "planeValid", apart := false }
def PlaneValidSaid : Prop := planeValidRow.holds Try.pinned (OpenSpec.ofChange planeValidSpec)

/-- ITS FALSE NEIGHBOUR: 'it returns false'. Refute it at one input. -/
def planeValidWrong : ChangeSpec := { name := "planeValid", fn := fun _ => fun
  | [d1, d2, d3, d4, d5] => { results := [.lit (.bool false)], args := [d1, d2, d3, d4, d5] }
  | _ => none }
def PlaneValidWrongFalsely : Prop := planeValidRow.holds Try.pinned (OpenSpec.ofChange planeValidWrong)

/-- 'tilefarmlaw4.PlaneReads': WHATEVER THE INPUT: true; the input reads as it did. -/
def planeReadsSpec : ChangeSpec := { name := "planeReads", fn := fun _ => fun
  | [d1, d2, d3, d4] => { results := [.lit (.bool true)], args := [d1, d2, d3, d4] }
  | _ => none }
def planeReadsRow : OpenClaim := { program := "ytgkccacenlcebaa", sum := "5f715d54b8267fd9e7ab3ae12a2f1748b820ef0b8f3e2cc860bbe4cf4da95269", func := "tilefarm/tilefarmlaw4.PlaneReads", spec := "planeReads", apart := false }
def PlaneReadsSaid : Prop := planeReadsRow.holds Try.pinned (OpenSpec.ofChange planeReadsSpec)

/-- ITS FALSE NEIGHBOUR: 'it returns false'. Refute it at one input. -/
def planeReadsWrong : ChangeSpec := { name := "planeReads", fn := fun _ => fun
  | [d1, d2, d3, d4] => { results := [.lit (.bool false)], args := [d1, d2, d3, d4] }
  | _ => none }
def PlaneReadsWrongFalsely : Prop := planeReadsRow.holds Try.pinned (OpenSpec.ofChange planeReadsWrong)

/-- 'tilefarmlaw4.PlaneCrops': WHATEVER THE INPUT: true; the input reads as it did. -/
def planeCropsSpec : ChangeSpec := { name := "planeCrops", fn := fun _ => fun
  | [d1, d2, d3, d4] => { results := [.lit (.bool true)], args := [d1, d2, d3, d4] }
  | _ => none }
def planeCropsRow : OpenClaim := { program := "ytgkccacenlcebaa", sum := "5f715d54b8267fd9e7ab3ae12a2f1748b820ef0b8f3e2cc860bbe4cf4da95269", func := "tilefarm/tilefarmlaw4.PlaneCrops", spec := "planeCrops", apart := false }
def PlaneCropsSaid : Prop := planeCropsRow.holds Try.pinned (OpenSpec.ofChange planeCropsSpec)

/-- ITS FALSE NEIGHBOUR: 'it returns false'. Refute it at one input. -/
def planeCropsWrong : ChangeSpec := { name := "planeCrops", fn := fun _ => fun
  | [d1, d2, d3, d4] => { results := [.lit (.bool false)], args := [d1, d2, d3, d4] }
  | _ => none }
def PlaneCropsWrongFalsely : Prop := planeCropsRow.holds Try.pinned (OpenSpec.ofChange planeCropsWrong)

/-- 'tilefarmlaw4.PlaneBlits': WHATEVER THE INPUT: true; the input reads as it did. -/
def planeBlitsSpec : ChangeSpec := { name := "planeBlits", fn := fun _ => fun
  | [d1, d2] => { results := [.lit (.bool true)], args := [d1, d2] }
  | _ => none }
def planeBlitsRow : OpenClaim := { program := "ytgkccacenlcebaa", sum := "5f715d54b8267fd9e7ab3ae12a2f1748b820ef0b8f3e2cc860bbe4cf4da95269", func := "tilefarm/tilefarmlaw4.PlaneBlits", spec := "planeBlits", apart := false }
def PlaneBlitsSaid : Prop := planeBlitsRow.holds Try.pinned (OpenSpec.ofChange planeBlitsSpec)

/-- ITS FALSE NEIGHBOUR: 'it returns false'. Refute it at one input. -/
def planeBlitsWrong : ChangeSpec := { name := "planeBlits", fn := fun _ => fun
  | [d1, d2] => { results := [.lit (.bool false)], args := [d1, d2] }
  | _ => none }
def PlaneBlitsWrongFalsely : Prop := planeBlitsRow.holds Try.pinned (OpenSpec.ofChange planeBlitsWrong)

/- THE SECOND FORM. 'bulk': how many values and letters a reading holds, each counted each time it is reached (what is shared counts as often as it is met; a slice's spare places count too). A statement '..UptoSaid' is the law's where the arguments, and the package variables that the reading takes, are together of bulk at most 1048576: NARROWER than '..Said'. Prove '..Said' where nothing that the law and all that it calls make is longer than what came in: it says more and counts as full. Else prove '..UptoSaid'. A law counts once. -/
mutual
def uptoBulk {H : Type} : DataW H → Nat
  | .lit (.string bytes) => bytes.length + 1
  | .lit _ => 1
  | .nil => 1
  | .ptr d => uptoBulk d + 1
  | .slice elems spare => uptoBulkAll elems + uptoBulkAll spare + 1
  | .agg parts => uptoBulkAll parts + 1
  | .iface _ d => uptoBulk d + 1
  | .map entries => uptoBulkEntries entries + 1
  | .held _ => 1
def uptoBulkAll {H : Type} : List (DataW H) → Nat
  | [] => 0
  | d :: r => uptoBulk d + uptoBulkAll r
def uptoBulkEntries {H : Type} : List (Lit × DataW H) → Nat
  | [] => 0
  | x :: r => uptoBulkEntry x + uptoBulkEntries r
def uptoBulkEntry {H : Type} : Lit × DataW H → Nat
  | (.string bytes, d) => bytes.length + uptoBulk d + 1
  | (_, d) => uptoBulk d + 1
 end
def uptoSmall : (H : Type) → List (DataW H) → Bool := fun _ ds => decide (uptoBulkAll ds ≤ 1048576)
def OpenSpec.upto (s : _root_.Go.ChangeSpec) : _root_.Go.OpenSpec := { _root_.Go.OpenSpec.ofChange s with cond := some uptoSmall }

/-- 'tilefarmlaw4.PlaneShares', WHERE WHAT IT READS IS OF BULK AT MOST 1048576: true; the input reads as it did. -/
def planeSharesUptoRow : OpenClaim := { program := "ytgkccacenlcebaa", sum := "5f715d54b8267fd9e7ab3ae12a2f1748b820ef0b8f3e2cc860bbe4cf4da95269", func := "tilefarm/tilefarmlaw4.PlaneShares", spec := "planeShares", apart := false, narrowed := true }
def PlaneSharesUptoSaid : Prop := planeSharesUptoRow.holds Try.pinned (OpenSpec.upto planeSharesSpec)

/-- 'tilefarmlaw4.PlaneValid', WHERE WHAT IT READS IS OF BULK AT MOST 1048576: true; the input reads as it did. -/
def planeValidUptoRow : OpenClaim := { program := "ytgkccacenlcebaa", sum := "5f715d54b8267fd9e7ab3ae12a2f1748b820ef0b8f3e2cc860bbe4cf4da95269", func := "tilefarm/tilefarmlaw4.PlaneValid", spec := "planeValid", apart := false, narrowed := true }
def PlaneValidUptoSaid : Prop := planeValidUptoRow.holds Try.pinned (OpenSpec.upto planeValidSpec)

/-- 'tilefarmlaw4.PlaneReads', WHERE WHAT IT READS IS OF BULK AT MOST 1048576: true; the input reads as it did. -/
def planeReadsUptoRow : OpenClaim := { program := "ytgkccacenlcebaa", sum := "5f715d54b8267fd9e7ab3ae12a2f1748b820ef0b8f3e2cc860bbe4cf4da95269", func := "tilefarm/tilefarmlaw4.PlaneReads", spec := "planeReads", apart := false, narrowed := true }
def PlaneReadsUptoSaid : Prop := planeReadsUptoRow.holds Try.pinned (OpenSpec.upto planeReadsSpec)

/-- 'tilefarmlaw4.PlaneCrops', WHERE WHAT IT READS IS OF BULK AT MOST 1048576: true; the input reads as it did. -/
def planeCropsUptoRow : OpenClaim := { program := "ytgkccacenlcebaa", sum := "5f715d54b8267fd9e7ab3ae12a2f1748b820ef0b8f3e2cc860bbe4cf4da95269", func := "tilefarm/tilefarmlaw4.PlaneCrops", spec := "planeCrops", apart := false, narrowed := true }
def PlaneCropsUptoSaid : Prop := planeCropsUptoRow.holds Try.pinned (OpenSpec.upto planeCropsSpec)

/-- 'tilefarmlaw4.PlaneBlits', WHERE WHAT IT READS IS OF BULK AT MOST 1048576: true; the input reads as it did. -/
def planeBlitsUptoRow : OpenClaim := { program := "ytgkccacenlcebaa", sum := "5f715d54b8267fd9e7ab3ae12a2f1748b820ef0b8f3e2cc860bbe4cf4da95269", func := "tilefarm/tilefarmlaw4.PlaneBlits", spec := "planeBlits", apart := false, narrowed := true }
def PlaneBlitsUptoSaid : Prop := planeBlitsUptoRow.holds Try.pinned (OpenSpec.upto planeBlitsSpec)

end Rows
end Go.Proofs.Ytgkccacenlcebaa
