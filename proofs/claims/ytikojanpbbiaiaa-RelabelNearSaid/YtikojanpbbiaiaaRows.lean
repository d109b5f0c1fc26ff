/-
  No cell of these rows narrows 'for every input' (looked for: loops, veiled, ifaces, maps, wideKeys, modest, calm, conditions, laid).
  DERIVED. THE GIVEN ROWS OF THIS SEAT. 3 by the template 'for every input the law returns true; each argument reads behind the call as it read before'; 0 by the template 'total and deterministic' (their statements: YtikojanpbbiaiaaTotals.lean).
  GIVEN WITH THE SEED: the statements are not yours to turn. If you find one false, say at which input.
  Laid BY PROGRAM, IN A SANDBOX (cutbox-rows.mjs): the forced cells as the released guide's own fill.sh prints them over the translation 802b8eb470a0c141… (all of the seat's roots in one cut). By AI agents, Wed Nov 11 2026. No macro, syntax, notation, axiom, sorry.
-/
import Derived.Test.YtikojanpbbiaiaaChecked
import GoSem.Claim
import GoSem.ClaimJoined
import GoSem.ClaimMapViews
import Derived.JoinedTies
import Derived.KernelRfl
namespace Go.Proofs.Ytikojanpbbiaiaa
/- THE CELL 'sum', in the pinned program and in every row, IS THE sha256 OF THE DUMP (.gsa) THAT YtikojanpbbiaiaaProg.lean LOADS. Nothing in Lean hashes anything: it is a label: what it is worth is what the hold of that sum in a sandbox is worth. -/
noncomputable def Try.pinned : Pinned := { name := "ytikojanpbbiaiaa", sum := "802b8eb470a0c1418a1f44bfe4620316531aa5275ce24b79033f794631e284f1", checked := Try.checked }
namespace Rows
def none {H : Type} : Left H := { results := [], args := [] }

/-- 'hachurelaw24.RelabelNear': WHATEVER THE INPUT: true; the input reads as it did. -/
def relabelNearSpec : ChangeSpec := { name := "relabelNear", fn := fun _ => fun
  | [d1, d2] => { results := [.lit (.bool true)], args := [d1, d2] }
  | _ => none }
def relabelNearRow : OpenClaim := { program := "ytikojanpbbiaiaa", sum := "802b8eb470a0c1418a1f44bfe4620316531aa5275ce24b79033f794631e284f1", func := "hachure/hachurelaw24.RelabelNear", spec := "relabelNear", inPlace := ["math.sqrt"], unfollowed := true, recurses := true, plainKeys := false, apart := false }
def RelabelNearSaid : Prop := relabelNearRow.holds Try.pinned (OpenSpec.ofChange relabelNearSpec)

/-- ITS FALSE NEIGHBOUR: 'it returns false'. Refute it at one input. -/
def relabelNearWrong : ChangeSpec := { name := "relabelNear", fn := fun _ => fun
  | [d1, d2] => { results := [.lit (.bool false)], args := [d1, d2] }
  | _ => none }
def RelabelNearWrongFalsely : Prop := relabelNearRow.holds Try.pinned (OpenSpec.ofChange relabelNearWrong)

/-- 'hachurelaw24.RelabelNothing': WHATEVER THE INPUT: true; the input reads as it did. -/
def relabelNothingSpec : ChangeSpec := { name := "relabelNothing", fn := fun _ => fun
  | [d] => { results := [.lit (.bool true)], args := [d] }
  | _ => none }
def relabelNothingRow : OpenClaim := { program := "ytikojanpbbiaiaa", sum := "802b8eb470a0c1418a1f44bfe4620316531aa5275ce24b79033f794631e284f1", func := "hachure/hachurelaw24.RelabelNothing", spec := "relabelNothing", inPlace := ["math.sqrt"], unfollowed := true, recurses := true, plainKeys := false, apart := false }
def RelabelNothingSaid : Prop := relabelNothingRow.holds Try.pinned (OpenSpec.ofChange relabelNothingSpec)

/-- ITS FALSE NEIGHBOUR: 'it returns false'. Refute it at one input. -/
def relabelNothingWrong : ChangeSpec := { name := "relabelNothing", fn := fun _ => fun
  | [d] => { results := [.lit (.bool false)], args := [d] }
  | _ => none }
def RelabelNothingWrongFalsely : Prop := relabelNothingRow.holds Try.pinned (OpenSpec.ofChange relabelNothingWrong)

/-- 'hachurelaw24.RelabelReach': WHATEVER THE INPUT: true; the input reads as it did. -/
def relabelReachSpec : ChangeSpec := { name := "relabelReach", fn := fun _ => fun
  | [d1, d2, d3] => { results := [.lit (.bool true)], args := [d1, d2, d3] }
  | _ => none }
def relabelReachRow : OpenClaim := { program := "ytikojanpbbiaiaa", sum := "802b8eb470a0c1418a1f44bfe4620316531aa5275ce24b79033f794631e284f1", func := "hachure/hachurelaw24.RelabelReach", spec := "relabelReach", inPlace := ["math.sqrt"], unfollowed := true, recurses := true, plainKeys := false, apart := false }
def RelabelReachSaid : Prop := relabelReachRow.holds Try.pinned (OpenSpec.ofChange relabelReachSpec)

/-- ITS FALSE NEIGHBOUR: 'it returns false'. Refute it at one input. -/
def relabelReachWrong : ChangeSpec := { name := "relabelReach", fn := fun _ => fun
  | [d1, d2, d3] => { results := [.lit (.bool false)], args := [d1, d2, d3] }
  | _ => none }
def RelabelReachWrongFalsely : Prop := relabelReachRow.holds Try.pinned (OpenSpec.ofChange relabelReachWrong)

/- THE SECOND FORM. 'bulk': how many values and letters a reading holds, each counted each time it is reached (what is shared counts as often as it is met; a slice's spare places count too). A statement '..UptoSaid' is the law's where the arguments, and the package variables that the reading takes, are together of bulk at most 1048576: NARROWER than '..Said'. Prove '..Said' where nothing that the law and all that it calls make is longer than what came in: it says more and counts as full. Else prove '..UptoSaid'. A law counts once. -/
mutual
def uptoBulk {H : Type} : DataW H → Nat
  | .lit (.string bytes) => bytes.length + 1
  | .lit _ => 1
  | .nil => 1
  | .ptr d => uptoBulk d + 1
  | .slice elems spare => uptoBulkAll elems + uptoBulkAll spare + 1
  | .agg parts => uptoBulkAll parts + 1
  | .iface _ d => uptoBulk d + 1
  | .map entries => uptoBulkEntries entries + 1
  | .held _ => 1
def uptoBulkAll {H : Type} : List (DataW H) → Nat
  | [] => 0
  | d :: r => uptoBulk d + uptoBulkAll r
def uptoBulkEntries {H : Type} : List (Lit × DataW H) → Nat
  | [] => 0
  | x :: r => uptoBulkEntry x + uptoBulkEntries r
def uptoBulkEntry {H : Type} : Lit × DataW H → Nat
  | (.string bytes, d) => bytes.length + uptoBulk d + 1
  | (_, d) => uptoBulk d + 1
 end
def uptoSmall : (H : Type) → List (DataW H) → Bool := fun _ ds => decide (uptoBulkAll ds ≤ 1048576)
def OpenSpec.upto (s : _root_.Go.ChangeSpec) : _root_.Go.OpenSpec := { _root_.Go.OpenSpec.ofChange s with cond := some uptoSmall }

/-- 'hachurelaw24.RelabelNear', WHERE WHAT IT READS IS OF BULK AT MOST 1048576: true; the input reads as it did. -/
def relabelNearUptoRow : OpenClaim := { program := "ytikojanpbbiaiaa", sum := "802b8eb470a0c1418a1f44bfe4620316531aa5275ce24b79033f794631e284f1", func := "hachure/hachurelaw24.RelabelNear", spec := "relabelNear", inPlace := ["math.sqrt"], unfollowed := true, recurses := true, plainKeys := false, apart := false, narrowed := true }
def RelabelNearUptoSaid : Prop := relabelNearUptoRow.holds Try.pinned (OpenSpec.upto relabelNearSpec)

/-- 'hachurelaw24.RelabelNothing', WHERE WHAT IT READS IS OF BULK AT MOST 1048576: true; the input reads as it did. -/
def relabelNothingUptoRow : OpenClaim := { program := "ytikojanpbbiaiaa", sum := "802b8eb470a0c1418a1f44bfe4620316531aa5275ce24b79033f794631e284f1", func := "hachure/hachurelaw24.RelabelNothing", spec := "relabelNothing", inPlace := ["math.sqrt"], unfollowed := true, recurses := true, plainKeys := false, apart := false, narrowed := true }
def RelabelNothingUptoSaid : Prop := relabelNothingUptoRow.holds Try.pinned (OpenSpec.upto relabelNothingSpec)

/-- 'hachurelaw24.RelabelReach', WHERE WHAT IT READS IS OF BULK AT MOST 1048576: true; the input reads as it did. -/
def relabelReachUptoRow : OpenClaim := { program := "ytikojanpbbiaiaa", sum := "802b8eb470a0c1418a1f44bfe4620316531aa5275ce24b79033f794631e284f1", func := "hachure/hachurelaw24.RelabelReach", spec := "relabelReach", inPlace := ["math.sqrt"], unfollowed := true, recurses := true, plainKeys := false, apart := false, narrowed := true }
def RelabelReachUptoSaid : Prop := relabelReachUptoRow.holds Try.pinned (OpenSpec.upto relabelReachSpec)

end Rows
end Go.Proofs.Ytikojanpbbiaiaa
