/-
  DERIVED. GIVEN WITH THE SEED: THE CARDS: each row of YtjfdbigkbgolmaaGreatDoorRows.lean that lists a variable, with what it lists TIED to the program's text (the seventh form; the later family's looks); each row that meets fmt, with fmt's text TOLD by the authors' own Lean function (tested against real Go, not proved from fmt's source: count such statements apart). THE CARD IS WHAT COUNTS. Prove the row's statement (the work); the ties are given (YtjfdbigkbgolmaaGreatDoorTie.lean); close each card by the builder's one call (the guide's Derived/Test/ToyasCard.lean, 'card_holds'). Laid BY PROGRAM, IN A SANDBOX (cutbox-door.mjs). By AI agents, Wed Nov 11 2026. No macro, syntax, notation, axiom, sorry.
-/
import Derived.Test.YtjfdbigkbgolmaaGreatDoorRows
import GoSem.ClaimSeven
namespace Go.Proofs.YtjfdbigkbgolmaaGreatDoor
namespace Rows

/-- THE TIED CARD OF 'hachurelaw29.DotsPlaces'. -/
def dotsPlacesCard : Claim7 := { stood := { row := dotsPlacesRow, standIns := [], harness := (true, "2352a86289a7c9117e16dab211783e9b85eaa4679f439bfe6356f5f1b2fa23ce"), looks := false }, kinds := [], alts := [], laidByText := true, laidKinds := [.data, .data, .data], laidTests := true, laidLooks := .later }
def DotsPlacesCardSaid : Prop := Claim7.holds Tryz.pinned (.plain (OpenSpec.ofChange dotsPlacesSpec)) dotsPlacesCard

/-- THE TIED CARD OF 'hachurelaw29.DotsWays'. -/
def dotsWaysCard : Claim7 := { stood := { row := dotsWaysRow, standIns := [], harness := (true, "2352a86289a7c9117e16dab211783e9b85eaa4679f439bfe6356f5f1b2fa23ce"), looks := false }, kinds := [], alts := [], laidByText := true, laidKinds := [.data, .data, .data], laidTests := true, laidLooks := .later }
def DotsWaysCardSaid : Prop := Claim7.holds Tryz.pinned (.plain (OpenSpec.ofChange dotsWaysSpec)) dotsWaysCard

/-- THE SECOND FORM's CARD OF 'hachurelaw29.DotsPlaces'. -/
def dotsPlacesUptoCard : Claim7 := { stood := { row := dotsPlacesUptoRow, standIns := [], harness := (true, "2352a86289a7c9117e16dab211783e9b85eaa4679f439bfe6356f5f1b2fa23ce"), looks := false }, kinds := [], alts := [], laidByText := true, laidKinds := [.data, .data, .data], laidTests := true, laidLooks := .later }
def DotsPlacesUptoCardSaid : Prop := Claim7.holds Tryz.pinned (.plain (OpenSpec.upto dotsPlacesSpec)) dotsPlacesUptoCard

/-- THE SECOND FORM's CARD OF 'hachurelaw29.DotsWays'. -/
def dotsWaysUptoCard : Claim7 := { stood := { row := dotsWaysUptoRow, standIns := [], harness := (true, "2352a86289a7c9117e16dab211783e9b85eaa4679f439bfe6356f5f1b2fa23ce"), looks := false }, kinds := [], alts := [], laidByText := true, laidKinds := [.data, .data, .data], laidTests := true, laidLooks := .later }
def DotsWaysUptoCardSaid : Prop := Claim7.holds Tryz.pinned (.plain (OpenSpec.upto dotsWaysSpec)) dotsWaysUptoCard
end Rows
end Go.Proofs.YtjfdbigkbgolmaaGreatDoor
