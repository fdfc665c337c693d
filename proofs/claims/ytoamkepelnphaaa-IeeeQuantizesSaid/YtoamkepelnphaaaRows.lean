/-
  No cell of these rows narrows 'for every input' (looked for: loops, veiled, ifaces, maps, wideKeys, modest, calm, conditions, laid).
  DERIVED. THE GIVEN ROWS OF THIS SEAT. 5 by the template 'for every input the law returns true; each argument reads behind the call as it read before'; 0 by the template 'total and deterministic' (their statements: YtoamkepelnphaaaTotals.lean).
  GIVEN WITH THE SEED: the statements are not yours to turn. If you find one false, say at which input.
  Laid BY PROGRAM, IN A SANDBOX (cutbox-rows.mjs): the forced cells as the released guide's own fill.sh prints them over the translation 92ad6895f305ce20… (all of the seat's roots in one cut). By AI agents, Wed Nov 11 2026. No macro, syntax, notation, axiom, sorry.
-/
import Derived.Test.YtoamkepelnphaaaChecked
import GoSem.Claim
import GoSem.ClaimJoined
import GoSem.ClaimMapViews
import Derived.JoinedTies
import Derived.KernelRfl
namespace Go.Proofs.Ytoamkepelnphaaa
/- THE CELL 'sum', in the pinned program and in every row, IS THE sha256 OF THE DUMP (.gsa) THAT YtoamkepelnphaaaProg.lean LOADS. Nothing in Lean hashes anything: it is a label: what it is worth is what the hold of that sum in a sandbox is worth. -/
noncomputable def Try.pinned : Pinned := { name := "ytoamkepelnphaaa", sum := "92ad6895f305ce20ae9c161a14ace44b7fab77358b52decb7d2d46c545e3dec6", checked := Try.checked }
namespace Rows
def none {H : Type} : Left H := { results := [], args := [] }

/-- 'tilefarmlaw6.IeeeScales': WHATEVER THE INPUT: true; the input reads as it did. -/
def ieeeScalesSpec : ChangeSpec := { name := "ieeeScales", fn := fun _ => fun
  | [d1, d2, d3] => { results := [.lit (.bool true)], args := [d1, d2, d3] }
  | _ => none }
def ieeeScalesRow : OpenClaim := { program := "ytoamkepelnphaaa", sum := "92ad6895f305ce20ae9c161a14ace44b7fab77358b52decb7d2d46c545e3dec6", func := "tilefarm/tilefarmlaw6.IeeeScales", spec := "ieeeScales", apart := false }
def IeeeScalesSaid : Prop := ieeeScalesRow.holds Try.pinned (OpenSpec.ofChange ieeeScalesSpec)

/-- ITS FALSE NEIGHBOUR: 'it returns false'. Refute it at one input. -/
def ieeeScalesWrong : ChangeSpec := { name := "ieeeScales", fn := fun _ => fun
  | [d1, d2, d3] => { results := [.lit (.bool false)], args := [d1, d2, d3] }
  | _ => none }
def IeeeScalesWrongFalsely : Prop := ieeeScalesRow.holds Try.pinned (OpenSpec.ofChange ieeeScalesWrong)

/-- 'tilefarmlaw6.IeeeQuantizes': WHATEVER THE INPUT: true; the input reads as it did. -/
def ieeeQuantizesSpec : ChangeSpec := { name := "ieeeQuantizes", fn := fun _ => fun
  | [d1, d2, d3] => { results := [.lit (.bool true)], args := [d1, d2, d3] }
  | _ => none }
def ieeeQuantizesRow : OpenClaim := { program := "ytoamkepelnphaaa", sum := "92ad6895f305ce20ae9c161a14ace44b7fab77358b52decb7d2d46c545e3dec6", func := "tilefarm/tilefarmlaw6.IeeeQuantizes", spec := "ieeeQuantizes", apart := false }
def IeeeQuantizesSaid : Prop := ieeeQuantizesRow.holds Try.pinned (OpenSpec.ofChange ieeeQuantizesSpec)

/-- ITS FALSE NEIGHBOUR: 'it returns false'. Refute it at one input. -/
def ieeeQuantizesWrong : ChangeSpec := { name := "ieeeQuantizes", fn := fun _ => fun
  | [d1, d2, d3] => { results := [.lit (.bool false)], args := [d1, d2, d3] }
  | _ => none }
def IeeeQuantizesWrongFalsely : Prop := ieeeQuantizesRow.holds Try.pinned (OpenSpec.ofChange ieeeQuantizesWrong)

/-- 'tilefarmlaw6.IeeeReads': WHATEVER THE INPUT: true; the input reads as it did. -/
def ieeeReadsSpec : ChangeSpec := { name := "ieeeReads", fn := fun _ => fun
  | [d1, d2, d3] => { results := [.lit (.bool true)], args := [d1, d2, d3] }
  | _ => none }
def ieeeReadsRow : OpenClaim := { program := "ytoamkepelnphaaa", sum := "92ad6895f305ce20ae9c161a14ace44b7fab77358b52decb7d2d46c545e3dec6", func := "tilefarm/tilefarmlaw6.IeeeReads", spec := "ieeeReads", apart := false }
def IeeeReadsSaid : Prop := ieeeReadsRow.holds Try.pinned (OpenSpec.ofChange ieeeReadsSpec)

/-- ITS FALSE NEIGHBOUR: 'it returns false'. Refute it at one input. -/
def ieeeReadsWrong : ChangeSpec := { name := "ieeeReads", fn := fun _ => fun
  | [d1, d2, d3] => { results := [.lit (.bool false)], args := [d1, d2, d3] }
  | _ => none }
def IeeeReadsWrongFalsely : Prop := ieeeReadsRow.holds Try.pinned (OpenSpec.ofChange ieeeReadsWrong)

/-- 'tilefarmlaw6.IeeeExact': WHATEVER THE INPUT: true; the input reads as it did. -/
def ieeeExactSpec : ChangeSpec := { name := "ieeeExact", fn := fun _ => fun
  | [d1, d2] => { results := [.lit (.bool true)], args := [d1, d2] }
  | _ => none }
def ieeeExactRow : OpenClaim := { program := "ytoamkepelnphaaa", sum := "92ad6895f305ce20ae9c161a14ace44b7fab77358b52decb7d2d46c545e3dec6", func := "tilefarm/tilefarmlaw6.IeeeExact", spec := "ieeeExact", apart := false }
def IeeeExactSaid : Prop := ieeeExactRow.holds Try.pinned (OpenSpec.ofChange ieeeExactSpec)

/-- ITS FALSE NEIGHBOUR: 'it returns false'. Refute it at one input. -/
def ieeeExactWrong : ChangeSpec := { name := "ieeeExact", fn := fun _ => fun
  | [d1, d2] => { results := [.lit (.bool false)], args := [d1, d2] }
  | _ => none }
def IeeeExactWrongFalsely : Prop := ieeeExactRow.holds Try.pinned (OpenSpec.ofChange ieeeExactWrong)

/-- 'tilefarmlaw6.IeeeSigns': WHATEVER THE INPUT: true; the input reads as it did. -/
def ieeeSignsSpec : ChangeSpec := { name := "ieeeSigns", fn := fun _ => fun
  | [d1, d2] => { results := [.lit (.bool true)], args := [d1, d2] }
  | _ => none }
def ieeeSignsRow : OpenClaim := { program := "ytoamkepelnphaaa", sum := "92ad6895f305ce20ae9c161a14ace44b7fab77358b52decb7d2d46c545e3dec6", func := "tilefarm/tilefarmlaw6.IeeeSigns", spec := "ieeeSigns", apart := false }
def IeeeSignsSaid : Prop := ieeeSignsRow.holds Try.pinned (OpenSpec.ofChange ieeeSignsSpec)

/-- ITS FALSE NEIGHBOUR: 'it returns false'. Refute it at one input. -/
def ieeeSignsWrong : ChangeSpec := { name := "ieeeSigns", fn := fun _ => fun
  | [d1, d2] => { results := [.lit (.bool false)], args := [d1, d2] }
  | _ => none }
def IeeeSignsWrongFalsely : Prop := ieeeSignsRow.holds Try.pinned (OpenSpec.ofChange ieeeSignsWrong)

/- THE SECOND FORM. 'bulk': how many values and letters a reading holds, each counted each time it is reached (what is shared counts as often as it is met; a slice's spare places count too). A statement '..UptoSaid' is the law's where the arguments, and the package variables that the reading takes, are together of bulk at most 1048576: NARROWER than '..Said'. Prove '..Said' where nothing that the law and all that it calls make is longer than what came in: it says more and counts as full. Else prove '..UptoSaid'. A law counts once. -/
mutual
def uptoBulk {H : Type} : DataW H → Nat
  | .lit (.string bytes) => bytes.length + 1
  | .lit _ => 1
  | .nil => 1
  | .ptr d => uptoBulk d + 1
  | .slice elems spare => uptoBulkAll elems + uptoBulkAll spare + 1
  | .agg parts => uptoBulkAll parts + 1
  | .iface _ d => uptoBulk d + 1
  | .map entries => uptoBulkEntries entries + 1
  | .held _ => 1
def uptoBulkAll {H : Type} : List (DataW H) → Nat
  | [] => 0
  | d :: r => uptoBulk d + uptoBulkAll r
def uptoBulkEntries {H : Type} : List (Lit × DataW H) → Nat
  | [] => 0
  | x :: r => uptoBulkEntry x + uptoBulkEntries r
def uptoBulkEntry {H : Type} : Lit × DataW H → Nat
  | (.string bytes, d) => bytes.length + uptoBulk d + 1
  | (_, d) => uptoBulk d + 1
 end
def uptoSmall : (H : Type) → List (DataW H) → Bool := fun _ ds => decide (uptoBulkAll ds ≤ 1048576)
def OpenSpec.upto (s : _root_.Go.ChangeSpec) : _root_.Go.OpenSpec := { _root_.Go.OpenSpec.ofChange s with cond := some uptoSmall }

/-- 'tilefarmlaw6.IeeeScales', WHERE WHAT IT READS IS OF BULK AT MOST 1048576: true; the input reads as it did. -/
def ieeeScalesUptoRow : OpenClaim := { program := "ytoamkepelnphaaa", sum := "92ad6895f305ce20ae9c161a14ace44b7fab77358b52decb7d2d46c545e3dec6", func := "tilefarm/tilefarmlaw6.IeeeScales", spec := "ieeeScales", apart := false, narrowed := true }
def IeeeScalesUptoSaid : Prop := ieeeScalesUptoRow.holds Try.pinned (OpenSpec.upto ieeeScalesSpec)

/-- 'tilefarmlaw6.IeeeQuantizes', WHERE WHAT IT READS IS OF BULK AT MOST 1048576: true; the input reads as it did. -/
def ieeeQuantizesUptoRow : OpenClaim := { program := "ytoamkepelnphaaa", sum := "92ad6895f305ce20ae9c161a14ace44b7fab77358b52decb7d2d46c545e3dec6", func := "tilefarm/tilefarmlaw6.IeeeQuantizes", spec := "ieeeQuantizes", apart := false, narrowed := true }
def IeeeQuantizesUptoSaid : Prop := ieeeQuantizesUptoRow.holds Try.pinned (OpenSpec.upto ieeeQuantizesSpec)

/-- 'tilefarmlaw6.IeeeReads', WHERE WHAT IT READS IS OF BULK AT MOST 1048576: true; the input reads as it did. -/
def ieeeReadsUptoRow : OpenClaim := { program := "ytoamkepelnphaaa", sum := "92ad6895f305ce20ae9c161a14ace44b7fab77358b52decb7d2d46c545e3dec6", func := "tilefarm/tilefarmlaw6.IeeeReads", spec := "ieeeReads", apart := false, narrowed := true }
def IeeeReadsUptoSaid : Prop := ieeeReadsUptoRow.holds Try.pinned (OpenSpec.upto ieeeReadsSpec)

/-- 'tilefarmlaw6.IeeeExact', WHERE WHAT IT READS IS OF BULK AT MOST 1048576: true; the input reads as it did. -/
def ieeeExactUptoRow : OpenClaim := { program := "ytoamkepelnphaaa", sum := "92ad6895f305ce20ae9c161a14ace44b7fab77358b52decb7d2d46c545e3dec6", func := "tilefarm/tilefarmlaw6.IeeeExact", spec := "ieeeExact", apart := false, narrowed := true }
def IeeeExactUptoSaid : Prop := ieeeExactUptoRow.holds Try.pinned (OpenSpec.upto ieeeExactSpec)

/-- 'tilefarmlaw6.IeeeSigns', WHERE WHAT IT READS IS OF BULK AT MOST 1048576: true; the input reads as it did. -/
def ieeeSignsUptoRow : OpenClaim := { program := "ytoamkepelnphaaa", sum := "92ad6895f305ce20ae9c161a14ace44b7fab77358b52decb7d2d46c545e3dec6", func := "tilefarm/tilefarmlaw6.IeeeSigns", spec := "ieeeSigns", apart := false, narrowed := true }
def IeeeSignsUptoSaid : Prop := ieeeSignsUptoRow.holds Try.pinned (OpenSpec.upto ieeeSignsSpec)

end Rows
end Go.Proofs.Ytoamkepelnphaaa
