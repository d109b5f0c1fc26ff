/-
  No cell of these rows narrows 'for every input' (looked for: loops, veiled, ifaces, maps, wideKeys, modest, calm, conditions, laid).
  DERIVED. THE GIVEN ROWS OF THIS SEAT. 3 by the template 'for every input the law returns true; each argument reads behind the call as it read before'; 0 by the template 'total and deterministic' (their statements: YtfcmmclialeepaaTotals.lean).
  GIVEN WITH THE SEED: the statements are not yours to turn. If you find one false, say at which input.
  Laid BY PROGRAM, IN A SANDBOX (cutbox-rows.mjs): the forced cells as the released guide's own fill.sh prints them over the translation 3ce46eef3065f311… (all of the seat's roots in one cut). By AI agents, Wed Nov 11 2026. No macro, syntax, notation, axiom, sorry.
-/
import Derived.Test.YtfcmmclialeepaaChecked
import GoSem.Claim
import GoSem.ClaimJoined
import GoSem.ClaimMapViews
import Derived.JoinedTies
import Derived.KernelRfl
namespace Go.Proofs.Ytfcmmclialeepaa
/- THE CELL 'sum', in the pinned program and in every row, IS THE sha256 OF THE DUMP (.gsa) THAT YtfcmmclialeepaaProg.lean LOADS. Nothing in Lean hashes anything: it is a label: what it is worth is what the hold of that sum in a sandbox is worth. -/
noncomputable def Try.pinned : Pinned := { name := "ytfcmmclialeepaa", sum := "3ce46eef3065f3119212e199350a6f6cd222f8e300c603ef31da2383ad5ff9b6", checked := Try.checked }
namespace Rows
def none {H : Type} : Left H := { results := [], args := [] }

/-- 'hachurelaw11.SpanRoots': WHATEVER THE INPUT: true; the input reads as it did. -/
def spanRootsSpec : ChangeSpec := { name := "spanRoots", fn := fun _ => fun
  | [d1, d2] => { results := [.lit (.bool true)], args := [d1, d2] }
  | _ => none }
def spanRootsRow : OpenClaim := { program := "ytfcmmclialeepaa", sum := "3ce46eef3065f3119212e199350a6f6cd222f8e300c603ef31da2383ad5ff9b6", func := "hachure/hachurelaw11.SpanRoots", spec := "spanRoots", inPlace := ["math.sqrt"], unfollowed := true, recurses := true, apart := false }
def SpanRootsSaid : Prop := spanRootsRow.holds Try.pinned (OpenSpec.ofChange spanRootsSpec)

/-- ITS FALSE NEIGHBOUR: 'it returns false'. Refute it at one input. -/
def spanRootsWrong : ChangeSpec := { name := "spanRoots", fn := fun _ => fun
  | [d1, d2] => { results := [.lit (.bool false)], args := [d1, d2] }
  | _ => none }
def SpanRootsWrongFalsely : Prop := spanRootsRow.holds Try.pinned (OpenSpec.ofChange spanRootsWrong)

/-- 'hachurelaw11.SpanStops': WHATEVER THE INPUT: true; the input reads as it did. -/
def spanStopsSpec : ChangeSpec := { name := "spanStops", fn := fun _ => fun
  | [d1, d2, d3] => { results := [.lit (.bool true)], args := [d1, d2, d3] }
  | _ => none }
def spanStopsRow : OpenClaim := { program := "ytfcmmclialeepaa", sum := "3ce46eef3065f3119212e199350a6f6cd222f8e300c603ef31da2383ad5ff9b6", func := "hachure/hachurelaw11.SpanStops", spec := "spanStops", inPlace := ["math.sqrt"], unfollowed := true, recurses := true, apart := false }
def SpanStopsSaid : Prop := spanStopsRow.holds Try.pinned (OpenSpec.ofChange spanStopsSpec)

/-- ITS FALSE NEIGHBOUR: 'it returns false'. Refute it at one input. -/
def spanStopsWrong : ChangeSpec := { name := "spanStops", fn := fun _ => fun
  | [d1, d2, d3] => { results := [.lit (.bool false)], args := [d1, d2, d3] }
  | _ => none }
def SpanStopsWrongFalsely : Prop := spanStopsRow.holds Try.pinned (OpenSpec.ofChange spanStopsWrong)

/-- 'hachurelaw11.SpanFractions': WHATEVER THE INPUT: true; the input reads as it did. -/
def spanFractionsSpec : ChangeSpec := { name := "spanFractions", fn := fun _ => fun
  | [d1, d2, d3] => { results := [.lit (.bool true)], args := [d1, d2, d3] }
  | _ => none }
def spanFractionsRow : OpenClaim := { program := "ytfcmmclialeepaa", sum := "3ce46eef3065f3119212e199350a6f6cd222f8e300c603ef31da2383ad5ff9b6", func := "hachure/hachurelaw11.SpanFractions", spec := "spanFractions", inPlace := ["math.sqrt"], unfollowed := true, recurses := true, apart := false }
def SpanFractionsSaid : Prop := spanFractionsRow.holds Try.pinned (OpenSpec.ofChange spanFractionsSpec)

/-- ITS FALSE NEIGHBOUR: 'it returns false'. Refute it at one input. -/
def spanFractionsWrong : ChangeSpec := { name := "spanFractions", fn := fun _ => fun
  | [d1, d2, d3] => { results := [.lit (.bool false)], args := [d1, d2, d3] }
  | _ => none }
def SpanFractionsWrongFalsely : Prop := spanFractionsRow.holds Try.pinned (OpenSpec.ofChange spanFractionsWrong)

/- THE SECOND FORM. 'bulk': how many values and letters a reading holds, each counted each time it is reached (what is shared counts as often as it is met; a slice's spare places count too). A statement '..UptoSaid' is the law's where the arguments, and the package variables that the reading takes, are together of bulk at most 1048576: NARROWER than '..Said'. Prove '..Said' where nothing that the law and all that it calls make is longer than what came in: it says more and counts as full. Else prove '..UptoSaid'. A law counts once. -/
mutual
def uptoBulk {H : Type} : DataW H → Nat
  | .lit (.string bytes) => bytes.length + 1
  | .lit _ => 1
  | .nil => 1
  | .ptr d => uptoBulk d + 1
  | .slice elems spare => uptoBulkAll elems + uptoBulkAll spare + 1
  | .agg parts => uptoBulkAll parts + 1
  | .iface _ d => uptoBulk d + 1
  | .map entries => uptoBulkEntries entries + 1
  | .held _ => 1
def uptoBulkAll {H : Type} : List (DataW H) → Nat
  | [] => 0
  | d :: r => uptoBulk d + uptoBulkAll r
def uptoBulkEntries {H : Type} : List (Lit × DataW H) → Nat
  | [] => 0
  | x :: r => uptoBulkEntry x + uptoBulkEntries r
def uptoBulkEntry {H : Type} : Lit × DataW H → Nat
  | (.string bytes, d) => bytes.length + uptoBulk d + 1
  | (_, d) => uptoBulk d + 1
 end
def uptoSmall : (H : Type) → List (DataW H) → Bool := fun _ ds => decide (uptoBulkAll ds ≤ 1048576)
def OpenSpec.upto (s : _root_.Go.ChangeSpec) : _root_.Go.OpenSpec := { _root_.Go.OpenSpec.ofChange s with cond := some uptoSmall }

/-- 'hachurelaw11.SpanRoots', WHERE WHAT IT READS IS OF BULK AT MOST 1048576: true; the input reads as it did. -/
def spanRootsUptoRow : OpenClaim := { program := "ytfcmmclialeepaa", sum := "3ce46eef3065f3119212e199350a6f6cd222f8e300c603ef31da2383ad5ff9b6", func := "hachure/hachurelaw11.SpanRoots", spec := "spanRoots", inPlace := ["math.sqrt"], unfollowed := true, recurses := true, apart := false, narrowed := true }
def SpanRootsUptoSaid : Prop := spanRootsUptoRow.holds Try.pinned (OpenSpec.upto spanRootsSpec)

/-- 'hachurelaw11.SpanStops', WHERE WHAT IT READS IS OF BULK AT MOST 1048576: true; the input reads as it did. -/
def spanStopsUptoRow : OpenClaim := { program := "ytfcmmclialeepaa", sum := "3ce46eef3065f3119212e199350a6f6cd222f8e300c603ef31da2383ad5ff9b6", func := "hachure/hachurelaw11.SpanStops", spec := "spanStops", inPlace := ["math.sqrt"], unfollowed := true, recurses := true, apart := false, narrowed := true }
def SpanStopsUptoSaid : Prop := spanStopsUptoRow.holds Try.pinned (OpenSpec.upto spanStopsSpec)

/-- 'hachurelaw11.SpanFractions', WHERE WHAT IT READS IS OF BULK AT MOST 1048576: true; the input reads as it did. -/
def spanFractionsUptoRow : OpenClaim := { program := "ytfcmmclialeepaa", sum := "3ce46eef3065f3119212e199350a6f6cd222f8e300c603ef31da2383ad5ff9b6", func := "hachure/hachurelaw11.SpanFractions", spec := "spanFractions", inPlace := ["math.sqrt"], unfollowed := true, recurses := true, apart := false, narrowed := true }
def SpanFractionsUptoSaid : Prop := spanFractionsUptoRow.holds Try.pinned (OpenSpec.upto spanFractionsSpec)

end Rows
end Go.Proofs.Ytfcmmclialeepaa
