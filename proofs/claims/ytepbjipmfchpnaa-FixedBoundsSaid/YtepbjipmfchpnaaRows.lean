/-
  No cell of these rows narrows 'for every input' (looked for: loops, veiled, ifaces, maps, wideKeys, modest, calm, conditions, laid).
  DERIVED. THE GIVEN ROWS OF THIS SEAT. 4 by the template 'for every input the law returns true; each argument reads behind the call as it read before'; 0 by the template 'total and deterministic' (their statements: YtepbjipmfchpnaaTotals.lean).
  GIVEN WITH THE SEED: the statements are not yours to turn. If you find one false, say at which input.
  Laid BY PROGRAM, IN A SANDBOX (cutbox-rows.mjs): the forced cells as the released guide's own fill.sh prints them over the translation 38f8497ad409e8e6… (all of the seat's roots in one cut). By AI agents, Wed Nov 11 2026. No macro, syntax, notation, axiom, sorry.
-/
import Derived.Test.YtepbjipmfchpnaaChecked
import GoSem.Claim
import GoSem.ClaimJoined
import GoSem.ClaimMapViews
import Derived.JoinedTies
import Derived.KernelRfl
namespace Go.Proofs.Ytepbjipmfchpnaa
/- THE CELL 'sum', in the pinned program and in every row, IS THE sha256 OF THE DUMP (.gsa) THAT YtepbjipmfchpnaaProg.lean LOADS. Nothing in Lean hashes anything: it is a label: what it is worth is what the hold of that sum in a sandbox is worth. -/
noncomputable def Try.pinned : Pinned := { name := "ytepbjipmfchpnaa", sum := "38f8497ad409e8e6f7b6b1814da85a6c99d6397593dcb88be96026e95683dca4", checked := Try.checked }
namespace Rows
def none {H : Type} : Left H := { results := [], args := [] }

/-- 'tilefarmlaw7.FixedBounds': WHATEVER THE INPUT: true; the input reads as it did. -/
def fixedBoundsSpec : ChangeSpec := { name := "fixedBounds", fn := fun _ => fun
  | [d1, d2, d3, d4] => { results := [.lit (.bool true)], args := [d1, d2, d3, d4] }
  | _ => none }
def fixedBoundsRow : OpenClaim := { program := "ytepbjipmfchpnaa", sum := "38f8497ad409e8e6f7b6b1814da85a6c99d6397593dcb88be96026e95683dca4", func := "tilefarm/tilefarmlaw7.FixedBounds", spec := "fixedBounds", apart := false }
def FixedBoundsSaid : Prop := fixedBoundsRow.holds Try.pinned (OpenSpec.ofChange fixedBoundsSpec)

/-- ITS FALSE NEIGHBOUR: 'it returns false'. Refute it at one input. -/
def fixedBoundsWrong : ChangeSpec := { name := "fixedBounds", fn := fun _ => fun
  | [d1, d2, d3, d4] => { results := [.lit (.bool false)], args := [d1, d2, d3, d4] }
  | _ => none }
def FixedBoundsWrongFalsely : Prop := fixedBoundsRow.holds Try.pinned (OpenSpec.ofChange fixedBoundsWrong)

/-- 'tilefarmlaw7.FixedWithin': WHATEVER THE INPUT: true; the input reads as it did. -/
def fixedWithinSpec : ChangeSpec := { name := "fixedWithin", fn := fun _ => fun
  | [d] => { results := [.lit (.bool true)], args := [d] }
  | _ => none }
def fixedWithinRow : OpenClaim := { program := "ytepbjipmfchpnaa", sum := "38f8497ad409e8e6f7b6b1814da85a6c99d6397593dcb88be96026e95683dca4", func := "tilefarm/tilefarmlaw7.FixedWithin", spec := "fixedWithin", apart := false }
def FixedWithinSaid : Prop := fixedWithinRow.holds Try.pinned (OpenSpec.ofChange fixedWithinSpec)

/-- ITS FALSE NEIGHBOUR: 'it returns false'. Refute it at one input. -/
def fixedWithinWrong : ChangeSpec := { name := "fixedWithin", fn := fun _ => fun
  | [d] => { results := [.lit (.bool false)], args := [d] }
  | _ => none }
def FixedWithinWrongFalsely : Prop := fixedWithinRow.holds Try.pinned (OpenSpec.ofChange fixedWithinWrong)

/-- 'tilefarmlaw7.FixedClamps': WHATEVER THE INPUT: true; the input reads as it did. -/
def fixedClampsSpec : ChangeSpec := { name := "fixedClamps", fn := fun _ => fun
  | [d1, d2, d3] => { results := [.lit (.bool true)], args := [d1, d2, d3] }
  | _ => none }
def fixedClampsRow : OpenClaim := { program := "ytepbjipmfchpnaa", sum := "38f8497ad409e8e6f7b6b1814da85a6c99d6397593dcb88be96026e95683dca4", func := "tilefarm/tilefarmlaw7.FixedClamps", spec := "fixedClamps", apart := false }
def FixedClampsSaid : Prop := fixedClampsRow.holds Try.pinned (OpenSpec.ofChange fixedClampsSpec)

/-- ITS FALSE NEIGHBOUR: 'it returns false'. Refute it at one input. -/
def fixedClampsWrong : ChangeSpec := { name := "fixedClamps", fn := fun _ => fun
  | [d1, d2, d3] => { results := [.lit (.bool false)], args := [d1, d2, d3] }
  | _ => none }
def FixedClampsWrongFalsely : Prop := fixedClampsRow.holds Try.pinned (OpenSpec.ofChange fixedClampsWrong)

/-- 'tilefarmlaw7.FixedShifts': WHATEVER THE INPUT: true; the input reads as it did. -/
def fixedShiftsSpec : ChangeSpec := { name := "fixedShifts", fn := fun _ => fun
  | [d1, d2, d3, d4] => { results := [.lit (.bool true)], args := [d1, d2, d3, d4] }
  | _ => none }
def fixedShiftsRow : OpenClaim := { program := "ytepbjipmfchpnaa", sum := "38f8497ad409e8e6f7b6b1814da85a6c99d6397593dcb88be96026e95683dca4", func := "tilefarm/tilefarmlaw7.FixedShifts", spec := "fixedShifts", apart := false }
def FixedShiftsSaid : Prop := fixedShiftsRow.holds Try.pinned (OpenSpec.ofChange fixedShiftsSpec)

/-- ITS FALSE NEIGHBOUR: 'it returns false'. Refute it at one input. -/
def fixedShiftsWrong : ChangeSpec := { name := "fixedShifts", fn := fun _ => fun
  | [d1, d2, d3, d4] => { results := [.lit (.bool false)], args := [d1, d2, d3, d4] }
  | _ => none }
def FixedShiftsWrongFalsely : Prop := fixedShiftsRow.holds Try.pinned (OpenSpec.ofChange fixedShiftsWrong)

/- THE SECOND FORM. 'bulk': how many values and letters a reading holds, each counted each time it is reached (what is shared counts as often as it is met; a slice's spare places count too). A statement '..UptoSaid' is the law's where the arguments, and the package variables that the reading takes, are together of bulk at most 1048576: NARROWER than '..Said'. Prove '..Said' where nothing that the law and all that it calls make is longer than what came in: it says more and counts as full. Else prove '..UptoSaid'. A law counts once. -/
mutual
def uptoBulk {H : Type} : DataW H → Nat
  | .lit (.string bytes) => bytes.length + 1
  | .lit _ => 1
  | .nil => 1
  | .ptr d => uptoBulk d + 1
  | .slice elems spare => uptoBulkAll elems + uptoBulkAll spare + 1
  | .agg parts => uptoBulkAll parts + 1
  | .iface _ d => uptoBulk d + 1
  | .map entries => uptoBulkEntries entries + 1
  | .held _ => 1
def uptoBulkAll {H : Type} : List (DataW H) → Nat
  | [] => 0
  | d :: r => uptoBulk d + uptoBulkAll r
def uptoBulkEntries {H : Type} : List (Lit × DataW H) → Nat
  | [] => 0
  | x :: r => uptoBulkEntry x + uptoBulkEntries r
def uptoBulkEntry {H : Type} : Lit × DataW H → Nat
  | (.string bytes, d) => bytes.length + uptoBulk d + 1
  | (_, d) => uptoBulk d + 1
 end
def uptoSmall : (H : Type) → List (DataW H) → Bool := fun _ ds => decide (uptoBulkAll ds ≤ 1048576)
def OpenSpec.upto (s : _root_.Go.ChangeSpec) : _root_.Go.OpenSpec := { _root_.Go.OpenSpec.ofChange s with cond := some uptoSmall }

/-- 'tilefarmlaw7.FixedBounds', WHERE WHAT IT READS IS OF BULK AT MOST 1048576: true; the input reads as it did. -/
def fixedBoundsUptoRow : OpenClaim := { program := "ytepbjipmfchpnaa", sum := "38f8497ad409e8e6f7b6b1814da85a6c99d6397593dcb88be96026e95683dca4", func := "tilefarm/tilefarmlaw7.FixedBounds", spec := "fixedBounds", apart := false, narrowed := true }
def FixedBoundsUptoSaid : Prop := fixedBoundsUptoRow.holds Try.pinned (OpenSpec.upto fixedBoundsSpec)

/-- 'tilefarmlaw7.FixedWithin', WHERE WHAT IT READS IS OF BULK AT MOST 1048576: true; the input reads as it did. -/
def fixedWithinUptoRow : OpenClaim := { program := "ytepbjipmfchpnaa", sum := "38f8497ad409e8e6f7b6b1814da85a6c99d6397593dcb88be96026e95683dca4", func := "tilefarm/tilefarmlaw7.FixedWithin", spec := "fixedWithin", apart := false, narrowed := true }
def FixedWithinUptoSaid : Prop := fixedWithinUptoRow.holds Try.pinned (OpenSpec.upto fixedWithinSpec)

/-- 'tilefarmlaw7.FixedClamps', WHERE WHAT IT READS IS OF BULK AT MOST 1048576: true; the input reads as it did. -/
def fixedClampsUptoRow : OpenClaim := { program := "ytepbjipmfchpnaa", sum := "38f8497ad409e8e6f7b6b1814da85a6c99d6397593dcb88be96026e95683dca4", func := "tilefarm/tilefarmlaw7.FixedClamps", spec := "fixedClamps", apart := false, narrowed := true }
def FixedClampsUptoSaid : Prop := fixedClampsUptoRow.holds Try.pinned (OpenSpec.upto fixedClampsSpec)

/-- 'tilefarmlaw7.FixedShifts', WHERE WHAT IT READS IS OF BULK AT MOST 1048576: true; the input reads as it did. -/
def fixedShiftsUptoRow : OpenClaim := { program := "ytepbjipmfchpnaa", sum := "38f8497ad409e8e6f7b6b1814da85a6c99d6397593dcb88be96026e95683dca4", func := "tilefarm/tilefarmlaw7.FixedShifts", spec := "fixedShifts", apart := false, narrowed := true }
def FixedShiftsUptoSaid : Prop := fixedShiftsUptoRow.holds Try.pinned (OpenSpec.upto fixedShiftsSpec)

end Rows
end Go.Proofs.Ytepbjipmfchpnaa
