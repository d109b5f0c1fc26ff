/-
  DERIVED. GIVEN WITH THE SEED: THE CARDS: each row of YtfocdbjceedagaaGreatDoorRows.lean that lists a variable, with what it lists TIED to the program's text (the seventh form; the later family's looks); each row that meets fmt, with fmt's text TOLD by the authors' own Lean function (tested against real Go, not proved from fmt's source: count such statements apart). THE CARD IS WHAT COUNTS. Prove the row's statement (the work); the ties are given (YtfocdbjceedagaaGreatDoorTie.lean); close each card by the builder's one call (the guide's Derived/Test/ToyasCard.lean, 'card_holds'). Laid BY PROGRAM, IN A SANDBOX (cutbox-door.mjs). By AI agents, Wed Nov 11 2026. No macro, syntax, notation, axiom, sorry.
-/
import Derived.Test.YtfocdbjceedagaaGreatDoorRows
import GoSem.ClaimSeven
namespace Go.Proofs.YtfocdbjceedagaaGreatDoor
namespace Rows

/-- THE TIED CARD OF 'hachurelaw30.EmbossMakes'. -/
def embossMakesCard : Claim7 := { stood := { row := embossMakesRow, standIns := [], harness := (true, "4e2156dd6f314a67e450ec81cc79f047e76c7e4539da38e25f005afc33dee098"), looks := true }, kinds := [], alts := [], laidByText := true, laidKinds := [.data, .data, .data], laidTests := true, laidLooks := .later }
def EmbossMakesCardSaid : Prop := Claim7.holds Tryz.pinned (.plain (OpenSpec.ofChange embossMakesSpec)) embossMakesCard

/-- THE TIED CARD OF 'hachurelaw30.EmbossChecks'. -/
def embossChecksCard : Claim7 := { stood := { row := embossChecksRow, standIns := [], harness := (true, "4e2156dd6f314a67e450ec81cc79f047e76c7e4539da38e25f005afc33dee098"), looks := true }, kinds := [], alts := [], laidByText := true, laidKinds := [.data, .data, .data], laidTests := true, laidLooks := .later }
def EmbossChecksCardSaid : Prop := Claim7.holds Tryz.pinned (.plain (OpenSpec.ofChange embossChecksSpec)) embossChecksCard

/-- THE TIED CARD OF 'hachurelaw30.EmbossGaps'. -/
def embossGapsCard : Claim7 := { stood := { row := embossGapsRow, standIns := [], harness := (true, "4e2156dd6f314a67e450ec81cc79f047e76c7e4539da38e25f005afc33dee098"), looks := true }, kinds := [], alts := [], laidByText := true, laidKinds := [.data, .data, .data], laidTests := true, laidLooks := .later }
def EmbossGapsCardSaid : Prop := Claim7.holds Tryz.pinned (.plain (OpenSpec.ofChange embossGapsSpec)) embossGapsCard

/-- THE TIED CARD OF 'hachurelaw30.EmbossOne'. -/
def embossOneCard : Claim7 := { stood := { row := embossOneRow, standIns := [], harness := (true, "4e2156dd6f314a67e450ec81cc79f047e76c7e4539da38e25f005afc33dee098"), looks := true }, kinds := [], alts := [], laidByText := true, laidKinds := [.data, .data, .data], laidTests := true, laidLooks := .later }
def EmbossOneCardSaid : Prop := Claim7.holds Tryz.pinned (.plain (OpenSpec.ofChange embossOneSpec)) embossOneCard

/-- THE TIED CARD OF 'hachurelaw30.EmbossLocal'. -/
def embossLocalCard : Claim7 := { stood := { row := embossLocalRow, standIns := [], harness := (true, "4e2156dd6f314a67e450ec81cc79f047e76c7e4539da38e25f005afc33dee098"), looks := true }, kinds := [], alts := [], laidByText := true, laidKinds := [.data, .data, .data], laidTests := true, laidLooks := .later }
def EmbossLocalCardSaid : Prop := Claim7.holds Tryz.pinned (.plain (OpenSpec.ofChange embossLocalSpec)) embossLocalCard

/-- THE SECOND FORM's CARD OF 'hachurelaw30.EmbossMakes'. -/
def embossMakesUptoCard : Claim7 := { stood := { row := embossMakesUptoRow, standIns := [], harness := (true, "4e2156dd6f314a67e450ec81cc79f047e76c7e4539da38e25f005afc33dee098"), looks := true }, kinds := [], alts := [], laidByText := true, laidKinds := [.data, .data, .data], laidTests := true, laidLooks := .later }
def EmbossMakesUptoCardSaid : Prop := Claim7.holds Tryz.pinned (.plain (OpenSpec.upto embossMakesSpec)) embossMakesUptoCard

/-- THE SECOND FORM's CARD OF 'hachurelaw30.EmbossChecks'. -/
def embossChecksUptoCard : Claim7 := { stood := { row := embossChecksUptoRow, standIns := [], harness := (true, "4e2156dd6f314a67e450ec81cc79f047e76c7e4539da38e25f005afc33dee098"), looks := true }, kinds := [], alts := [], laidByText := true, laidKinds := [.data, .data, .data], laidTests := true, laidLooks := .later }
def EmbossChecksUptoCardSaid : Prop := Claim7.holds Tryz.pinned (.plain (OpenSpec.upto embossChecksSpec)) embossChecksUptoCard

/-- THE SECOND FORM's CARD OF 'hachurelaw30.EmbossGaps'. -/
def embossGapsUptoCard : Claim7 := { stood := { row := embossGapsUptoRow, standIns := [], harness := (true, "4e2156dd6f314a67e450ec81cc79f047e76c7e4539da38e25f005afc33dee098"), looks := true }, kinds := [], alts := [], laidByText := true, laidKinds := [.data, .data, .data], laidTests := true, laidLooks := .later }
def EmbossGapsUptoCardSaid : Prop := Claim7.holds Tryz.pinned (.plain (OpenSpec.upto embossGapsSpec)) embossGapsUptoCard

/-- THE SECOND FORM's CARD OF 'hachurelaw30.EmbossOne'. -/
def embossOneUptoCard : Claim7 := { stood := { row := embossOneUptoRow, standIns := [], harness := (true, "4e2156dd6f314a67e450ec81cc79f047e76c7e4539da38e25f005afc33dee098"), looks := true }, kinds := [], alts := [], laidByText := true, laidKinds := [.data, .data, .data], laidTests := true, laidLooks := .later }
def EmbossOneUptoCardSaid : Prop := Claim7.holds Tryz.pinned (.plain (OpenSpec.upto embossOneSpec)) embossOneUptoCard

/-- THE SECOND FORM's CARD OF 'hachurelaw30.EmbossLocal'. -/
def embossLocalUptoCard : Claim7 := { stood := { row := embossLocalUptoRow, standIns := [], harness := (true, "4e2156dd6f314a67e450ec81cc79f047e76c7e4539da38e25f005afc33dee098"), looks := true }, kinds := [], alts := [], laidByText := true, laidKinds := [.data, .data, .data], laidTests := true, laidLooks := .later }
def EmbossLocalUptoCardSaid : Prop := Claim7.holds Tryz.pinned (.plain (OpenSpec.upto embossLocalSpec)) embossLocalUptoCard
end Rows
end Go.Proofs.YtfocdbjceedagaaGreatDoor
