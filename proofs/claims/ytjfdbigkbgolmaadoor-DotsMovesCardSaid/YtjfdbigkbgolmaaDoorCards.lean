/-
  DERIVED. GIVEN WITH THE SEED: THE CARDS: each row of YtjfdbigkbgolmaaDoorRows.lean that lists a variable, with what it lists TIED to the program's text (the seventh form; the later family's looks); each row that meets fmt, with fmt's text TOLD by the authors' own Lean function (tested against real Go, not proved from fmt's source: count such statements apart). THE CARD IS WHAT COUNTS. Prove the row's statement (the work); the ties are given (YtjfdbigkbgolmaaDoorTie.lean); close each card by the builder's one call (the guide's Derived/Test/ToyasCard.lean, 'card_holds'). Laid BY PROGRAM, IN A SANDBOX (cutbox-door.mjs). By AI agents, Wed Nov 11 2026. No macro, syntax, notation, axiom, sorry.
-/
import Derived.Test.YtjfdbigkbgolmaaDoorRows
import GoSem.ClaimSeven
namespace Go.Proofs.YtjfdbigkbgolmaaDoor
namespace Rows

/-- THE TIED CARD OF 'hachurelaw29.DotsOf'. -/
def dotsOfCard : Claim7 := { stood := { row := dotsOfRow, standIns := [], harness := (true, "86414d74468913da65f980f4489f2788163e2ca0682511613566c4d8751088c1"), looks := false }, kinds := [], alts := [], laidByText := true, laidKinds := [.data, .data, .data], laidTests := true, laidLooks := .later }
def DotsOfCardSaid : Prop := Claim7.holds Tryd.pinned (.plain (OpenSpec.ofChange dotsOfSpec)) dotsOfCard

/-- THE TIED CARD OF 'hachurelaw29.DotsLines'. -/
def dotsLinesCard : Claim7 := { stood := { row := dotsLinesRow, standIns := [], harness := (true, "86414d74468913da65f980f4489f2788163e2ca0682511613566c4d8751088c1"), looks := false }, kinds := [], alts := [], laidByText := true, laidKinds := [.data, .data, .data], laidTests := true, laidLooks := .later }
def DotsLinesCardSaid : Prop := Claim7.holds Tryd.pinned (.plain (OpenSpec.ofChange dotsLinesSpec)) dotsLinesCard

/-- THE TIED CARD OF 'hachurelaw29.DotsMoves'. -/
def dotsMovesCard : Claim7 := { stood := { row := dotsMovesRow, standIns := [], harness := (true, "86414d74468913da65f980f4489f2788163e2ca0682511613566c4d8751088c1"), looks := false }, kinds := [], alts := [], laidByText := true, laidKinds := [.data, .data, .data], laidTests := true, laidLooks := .later }
def DotsMovesCardSaid : Prop := Claim7.holds Tryd.pinned (.plain (OpenSpec.ofChange dotsMovesSpec)) dotsMovesCard

/-- THE TIED CARD OF 'hachurelaw29.DotsApart'. -/
def dotsApartCard : Claim7 := { stood := { row := dotsApartRow, standIns := [], harness := (true, "86414d74468913da65f980f4489f2788163e2ca0682511613566c4d8751088c1"), looks := false }, kinds := [], alts := [], laidByText := true, laidKinds := [.data, .data, .data], laidTests := true, laidLooks := .later }
def DotsApartCardSaid : Prop := Claim7.holds Tryd.pinned (.plain (OpenSpec.ofChange dotsApartSpec)) dotsApartCard

/-- THE SECOND FORM's CARD OF 'hachurelaw29.DotsOf'. -/
def dotsOfUptoCard : Claim7 := { stood := { row := dotsOfUptoRow, standIns := [], harness := (true, "86414d74468913da65f980f4489f2788163e2ca0682511613566c4d8751088c1"), looks := false }, kinds := [], alts := [], laidByText := true, laidKinds := [.data, .data, .data], laidTests := true, laidLooks := .later }
def DotsOfUptoCardSaid : Prop := Claim7.holds Tryd.pinned (.plain (OpenSpec.upto dotsOfSpec)) dotsOfUptoCard

/-- THE SECOND FORM's CARD OF 'hachurelaw29.DotsLines'. -/
def dotsLinesUptoCard : Claim7 := { stood := { row := dotsLinesUptoRow, standIns := [], harness := (true, "86414d74468913da65f980f4489f2788163e2ca0682511613566c4d8751088c1"), looks := false }, kinds := [], alts := [], laidByText := true, laidKinds := [.data, .data, .data], laidTests := true, laidLooks := .later }
def DotsLinesUptoCardSaid : Prop := Claim7.holds Tryd.pinned (.plain (OpenSpec.upto dotsLinesSpec)) dotsLinesUptoCard

/-- THE SECOND FORM's CARD OF 'hachurelaw29.DotsMoves'. -/
def dotsMovesUptoCard : Claim7 := { stood := { row := dotsMovesUptoRow, standIns := [], harness := (true, "86414d74468913da65f980f4489f2788163e2ca0682511613566c4d8751088c1"), looks := false }, kinds := [], alts := [], laidByText := true, laidKinds := [.data, .data, .data], laidTests := true, laidLooks := .later }
def DotsMovesUptoCardSaid : Prop := Claim7.holds Tryd.pinned (.plain (OpenSpec.upto dotsMovesSpec)) dotsMovesUptoCard

/-- THE SECOND FORM's CARD OF 'hachurelaw29.DotsApart'. -/
def dotsApartUptoCard : Claim7 := { stood := { row := dotsApartUptoRow, standIns := [], harness := (true, "86414d74468913da65f980f4489f2788163e2ca0682511613566c4d8751088c1"), looks := false }, kinds := [], alts := [], laidByText := true, laidKinds := [.data, .data, .data], laidTests := true, laidLooks := .later }
def DotsApartUptoCardSaid : Prop := Claim7.holds Tryd.pinned (.plain (OpenSpec.upto dotsApartSpec)) dotsApartUptoCard
end Rows
end Go.Proofs.YtjfdbigkbgolmaaDoor
