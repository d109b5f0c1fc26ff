/-
  No cell of these rows narrows 'for every input' (looked for: loops, veiled, ifaces, maps, wideKeys, modest, calm, conditions, laid).
  DERIVED. THE GIVEN ROWS OF THIS SEAT. 6 by the template 'for every input the law returns true; each argument reads behind the call as it read before'; 0 by the template 'total and deterministic' (their statements: YtddkbmaoeppckaaTotals.lean).
  GIVEN WITH THE SEED: the statements are not yours to turn. If you find one false, say at which input.
  Laid BY PROGRAM, IN A SANDBOX (cutbox-rows.mjs): the forced cells as the released guide's own fill.sh prints them over the translation 4d232f99e49cbd28… (all of the seat's roots in one cut). By AI agents, Wed Nov 11 2026. No macro, syntax, notation, axiom, sorry.
-/
import Derived.Test.YtddkbmaoeppckaaChecked
import GoSem.Claim
import GoSem.ClaimJoined
import GoSem.ClaimMapViews
import Derived.JoinedTies
import Derived.KernelRfl
namespace Go.Proofs.Ytddkbmaoeppckaa
/- THE CELL 'sum', in the pinned program and in every row, IS THE sha256 OF THE DUMP (.gsa) THAT YtddkbmaoeppckaaProg.lean LOADS. Nothing in Lean hashes anything: it is a label: what it is worth is what the hold of that sum in a sandbox is worth. -/
noncomputable def Try.pinned : Pinned := { name := "ytddkbmaoeppckaa", sum := "4d232f99e49cbd28471e7847158f06c30d12f2193a514c6cb3a4ae6d56003af3", checked := Try.checked }
namespace Rows
def none {H : Type} : Left H := { results := [], args := [] }

/-- 'hachurelaw01.ExactSigns': WHATEVER THE INPUT: true; the input reads as it did. -/
def exactSignsSpec : ChangeSpec := { name := "exactSigns", fn := fun _ => fun
  | [d] => { results := [.lit (.bool true)], args := [d] }
  | _ => none }
def exactSignsRow : OpenClaim := { program := "ytddkbmaoeppckaa", sum := "4d232f99e49cbd28471e7847158f06c30d12f2193a514c6cb3a4ae6d56003af3", func := "hachure/hachurelaw01.ExactSigns", spec := "exactSigns", inPlace := ["math.sqrt"], apart := false }
def ExactSignsSaid : Prop := exactSignsRow.holds Try.pinned (OpenSpec.ofChange exactSignsSpec)

/-- ITS FALSE NEIGHBOUR: 'it returns false'. Refute it at one input. -/
def exactSignsWrong : ChangeSpec := { name := "exactSigns", fn := fun _ => fun
  | [d] => { results := [.lit (.bool false)], args := [d] }
  | _ => none }
def ExactSignsWrongFalsely : Prop := exactSignsRow.holds Try.pinned (OpenSpec.ofChange exactSignsWrong)

/-- 'hachurelaw01.ExactSmall': WHATEVER THE INPUT: true; the input reads as it did. -/
def exactSmallSpec : ChangeSpec := { name := "exactSmall", fn := fun _ => fun
  | [d1, d2] => { results := [.lit (.bool true)], args := [d1, d2] }
  | _ => none }
def exactSmallRow : OpenClaim := { program := "ytddkbmaoeppckaa", sum := "4d232f99e49cbd28471e7847158f06c30d12f2193a514c6cb3a4ae6d56003af3", func := "hachure/hachurelaw01.ExactSmall", spec := "exactSmall", inPlace := ["math.sqrt"], apart := false }
def ExactSmallSaid : Prop := exactSmallRow.holds Try.pinned (OpenSpec.ofChange exactSmallSpec)

/-- ITS FALSE NEIGHBOUR: 'it returns false'. Refute it at one input. -/
def exactSmallWrong : ChangeSpec := { name := "exactSmall", fn := fun _ => fun
  | [d1, d2] => { results := [.lit (.bool false)], args := [d1, d2] }
  | _ => none }
def ExactSmallWrongFalsely : Prop := exactSmallRow.holds Try.pinned (OpenSpec.ofChange exactSmallWrong)

/-- 'hachurelaw01.ExactOrder': WHATEVER THE INPUT: true; the input reads as it did. -/
def exactOrderSpec : ChangeSpec := { name := "exactOrder", fn := fun _ => fun
  | [d1, d2, d3] => { results := [.lit (.bool true)], args := [d1, d2, d3] }
  | _ => none }
def exactOrderRow : OpenClaim := { program := "ytddkbmaoeppckaa", sum := "4d232f99e49cbd28471e7847158f06c30d12f2193a514c6cb3a4ae6d56003af3", func := "hachure/hachurelaw01.ExactOrder", spec := "exactOrder", inPlace := ["math.sqrt"], apart := false }
def ExactOrderSaid : Prop := exactOrderRow.holds Try.pinned (OpenSpec.ofChange exactOrderSpec)

/-- ITS FALSE NEIGHBOUR: 'it returns false'. Refute it at one input. -/
def exactOrderWrong : ChangeSpec := { name := "exactOrder", fn := fun _ => fun
  | [d1, d2, d3] => { results := [.lit (.bool false)], args := [d1, d2, d3] }
  | _ => none }
def ExactOrderWrongFalsely : Prop := exactOrderRow.holds Try.pinned (OpenSpec.ofChange exactOrderWrong)

/-- 'hachurelaw01.ExactRoots': WHATEVER THE INPUT: true; the input reads as it did. -/
def exactRootsSpec : ChangeSpec := { name := "exactRoots", fn := fun _ => fun
  | [d] => { results := [.lit (.bool true)], args := [d] }
  | _ => none }
def exactRootsRow : OpenClaim := { program := "ytddkbmaoeppckaa", sum := "4d232f99e49cbd28471e7847158f06c30d12f2193a514c6cb3a4ae6d56003af3", func := "hachure/hachurelaw01.ExactRoots", spec := "exactRoots", inPlace := ["math.sqrt"], apart := false }
def ExactRootsSaid : Prop := exactRootsRow.holds Try.pinned (OpenSpec.ofChange exactRootsSpec)

/-- ITS FALSE NEIGHBOUR: 'it returns false'. Refute it at one input. -/
def exactRootsWrong : ChangeSpec := { name := "exactRoots", fn := fun _ => fun
  | [d] => { results := [.lit (.bool false)], args := [d] }
  | _ => none }
def ExactRootsWrongFalsely : Prop := exactRootsRow.holds Try.pinned (OpenSpec.ofChange exactRootsWrong)

/-- 'hachurelaw01.ExactLowest': WHATEVER THE INPUT: true; the input reads as it did. -/
def exactLowestSpec : ChangeSpec := { name := "exactLowest", fn := fun _ => fun
  | [d1, d2, d3] => { results := [.lit (.bool true)], args := [d1, d2, d3] }
  | _ => none }
def exactLowestRow : OpenClaim := { program := "ytddkbmaoeppckaa", sum := "4d232f99e49cbd28471e7847158f06c30d12f2193a514c6cb3a4ae6d56003af3", func := "hachure/hachurelaw01.ExactLowest", spec := "exactLowest", inPlace := ["math.sqrt"], apart := false }
def ExactLowestSaid : Prop := exactLowestRow.holds Try.pinned (OpenSpec.ofChange exactLowestSpec)

/-- ITS FALSE NEIGHBOUR: 'it returns false'. Refute it at one input. -/
def exactLowestWrong : ChangeSpec := { name := "exactLowest", fn := fun _ => fun
  | [d1, d2, d3] => { results := [.lit (.bool false)], args := [d1, d2, d3] }
  | _ => none }
def ExactLowestWrongFalsely : Prop := exactLowestRow.holds Try.pinned (OpenSpec.ofChange exactLowestWrong)

/-- 'hachurelaw01.ExactReduced': WHATEVER THE INPUT: true; the input reads as it did. -/
def exactReducedSpec : ChangeSpec := { name := "exactReduced", fn := fun _ => fun
  | [d1, d2] => { results := [.lit (.bool true)], args := [d1, d2] }
  | _ => none }
def exactReducedRow : OpenClaim := { program := "ytddkbmaoeppckaa", sum := "4d232f99e49cbd28471e7847158f06c30d12f2193a514c6cb3a4ae6d56003af3", func := "hachure/hachurelaw01.ExactReduced", spec := "exactReduced", inPlace := ["math.sqrt"], apart := false }
def ExactReducedSaid : Prop := exactReducedRow.holds Try.pinned (OpenSpec.ofChange exactReducedSpec)

/-- ITS FALSE NEIGHBOUR: 'it returns false'. Refute it at one input. -/
def exactReducedWrong : ChangeSpec := { name := "exactReduced", fn := fun _ => fun
  | [d1, d2] => { results := [.lit (.bool false)], args := [d1, d2] }
  | _ => none }
def ExactReducedWrongFalsely : Prop := exactReducedRow.holds Try.pinned (OpenSpec.ofChange exactReducedWrong)

/- THE SECOND FORM. 'bulk': how many values and letters a reading holds, each counted each time it is reached (what is shared counts as often as it is met; a slice's spare places count too). A statement '..UptoSaid' is the law's where the arguments, and the package variables that the reading takes, are together of bulk at most 1048576: NARROWER than '..Said'. Prove '..Said' where nothing that the law and all that it calls make is longer than what came in: it says more and counts as full. Else prove '..UptoSaid'. A law counts once. -/
mutual
def uptoBulk {H : Type} : DataW H → Nat
  | .lit (.string bytes) => bytes.length + 1
  | .lit _ => 1
  | .nil => 1
  | .ptr d => uptoBulk d + 1
  | .slice elems spare => uptoBulkAll elems + uptoBulkAll spare + 1
  | .agg parts => uptoBulkAll parts + 1
  | .iface _ d => uptoBulk d + 1
  | .map entries => uptoBulkEntries entries + 1
  | .held _ => 1
def uptoBulkAll {H : Type} : List (DataW H) → Nat
  | [] => 0
  | d :: r => uptoBulk d + uptoBulkAll r
def uptoBulkEntries {H : Type} : List (Lit × DataW H) → Nat
  | [] => 0
  | x :: r => uptoBulkEntry x + uptoBulkEntries r
def uptoBulkEntry {H : Type} : Lit × DataW H → Nat
  | (.string bytes, d) => bytes.length + uptoBulk d + 1
  | (_, d) => uptoBulk d + 1
 end
def uptoSmall : (H : Type) → List (DataW H) → Bool := fun _ ds => decide (uptoBulkAll ds ≤ 1048576)
def OpenSpec.upto (s : _root_.Go.ChangeSpec) : _root_.Go.OpenSpec := { _root_.Go.OpenSpec.ofChange s with cond := some uptoSmall }

/-- 'hachurelaw01.ExactSigns', WHERE WHAT IT READS IS OF BULK AT MOST 1048576: true; the input reads as it did. -/
def exactSignsUptoRow : OpenClaim := { program := "ytddkbmaoeppckaa", sum := "4d232f99e49cbd28471e7847158f06c30d12f2193a514c6cb3a4ae6d56003af3", func := "hachure/hachurelaw01.ExactSigns", spec := "exactSigns", inPlace := ["math.sqrt"], apart := false, narrowed := true }
def ExactSignsUptoSaid : Prop := exactSignsUptoRow.holds Try.pinned (OpenSpec.upto exactSignsSpec)

/-- 'hachurelaw01.ExactSmall', WHERE WHAT IT READS IS OF BULK AT MOST 1048576: true; the input reads as it did. -/
def exactSmallUptoRow : OpenClaim := { program := "ytddkbmaoeppckaa", sum := "4d232f99e49cbd28471e7847158f06c30d12f2193a514c6cb3a4ae6d56003af3", func := "hachure/hachurelaw01.ExactSmall", spec := "exactSmall", inPlace := ["math.sqrt"], apart := false, narrowed := true }
def ExactSmallUptoSaid : Prop := exactSmallUptoRow.holds Try.pinned (OpenSpec.upto exactSmallSpec)

/-- 'hachurelaw01.ExactOrder', WHERE WHAT IT READS IS OF BULK AT MOST 1048576: true; the input reads as it did. -/
def exactOrderUptoRow : OpenClaim := { program := "ytddkbmaoeppckaa", sum := "4d232f99e49cbd28471e7847158f06c30d12f2193a514c6cb3a4ae6d56003af3", func := "hachure/hachurelaw01.ExactOrder", spec := "exactOrder", inPlace := ["math.sqrt"], apart := false, narrowed := true }
def ExactOrderUptoSaid : Prop := exactOrderUptoRow.holds Try.pinned (OpenSpec.upto exactOrderSpec)

/-- 'hachurelaw01.ExactRoots', WHERE WHAT IT READS IS OF BULK AT MOST 1048576: true; the input reads as it did. -/
def exactRootsUptoRow : OpenClaim := { program := "ytddkbmaoeppckaa", sum := "4d232f99e49cbd28471e7847158f06c30d12f2193a514c6cb3a4ae6d56003af3", func := "hachure/hachurelaw01.ExactRoots", spec := "exactRoots", inPlace := ["math.sqrt"], apart := false, narrowed := true }
def ExactRootsUptoSaid : Prop := exactRootsUptoRow.holds Try.pinned (OpenSpec.upto exactRootsSpec)

/-- 'hachurelaw01.ExactLowest', WHERE WHAT IT READS IS OF BULK AT MOST 1048576: true; the input reads as it did. -/
def exactLowestUptoRow : OpenClaim := { program := "ytddkbmaoeppckaa", sum := "4d232f99e49cbd28471e7847158f06c30d12f2193a514c6cb3a4ae6d56003af3", func := "hachure/hachurelaw01.ExactLowest", spec := "exactLowest", inPlace := ["math.sqrt"], apart := false, narrowed := true }
def ExactLowestUptoSaid : Prop := exactLowestUptoRow.holds Try.pinned (OpenSpec.upto exactLowestSpec)

/-- 'hachurelaw01.ExactReduced', WHERE WHAT IT READS IS OF BULK AT MOST 1048576: true; the input reads as it did. -/
def exactReducedUptoRow : OpenClaim := { program := "ytddkbmaoeppckaa", sum := "4d232f99e49cbd28471e7847158f06c30d12f2193a514c6cb3a4ae6d56003af3", func := "hachure/hachurelaw01.ExactReduced", spec := "exactReduced", inPlace := ["math.sqrt"], apart := false, narrowed := true }
def ExactReducedUptoSaid : Prop := exactReducedUptoRow.holds Try.pinned (OpenSpec.upto exactReducedSpec)

end Rows
end Go.Proofs.Ytddkbmaoeppckaa
