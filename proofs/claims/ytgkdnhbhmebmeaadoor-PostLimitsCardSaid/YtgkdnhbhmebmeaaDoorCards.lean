/-
  DERIVED. GIVEN WITH THE SEED: THE CARDS: each row of YtgkdnhbhmebmeaaDoorRows.lean that lists a variable, with what it lists TIED to the program's text (the seventh form; the later family's looks); each row that meets fmt, with fmt's text TOLD by the authors' own Lean function (tested against real Go, not proved from fmt's source: count such statements apart). THE CARD IS WHAT COUNTS. Prove the row's statement (the work); the ties are given (YtgkdnhbhmebmeaaDoorTie.lean); close each card by the builder's one call (the guide's Derived/Test/ToyasCard.lean, 'card_holds'). Laid BY PROGRAM, IN A SANDBOX (cutbox-door.mjs). By AI agents, Wed Nov 11 2026. No macro, syntax, notation, axiom, sorry.
-/
import Derived.Test.YtgkdnhbhmebmeaaDoorRows
import GoSem.ClaimSeven
namespace Go.Proofs.YtgkdnhbhmebmeaaDoor
namespace Rows

/-- THE TIED CARD OF 'covenantlaw22.PostTells'. -/
def postTellsCard : Claim7 := { stood := { row := postTellsRow, standIns := [], harness := (true, "91fb266e8eb6e8c689bd96e86aaa1519e17ebb7a9289276c6225330c4d8c3b98"), looks := false }, kinds := [], alts := [], laidByText := true, laidKinds := [.data], laidTests := true, laidLooks := .later }
def PostTellsCardSaid : Prop := Claim7.holds Tryd.pinned (.plain (OpenSpec.ofChange postTellsSpec)) postTellsCard

/-- THE TIED CARD OF 'covenantlaw22.PostBack'. -/
def postBackCard : Claim7 := { stood := { row := postBackRow, standIns := [], harness := (true, "91fb266e8eb6e8c689bd96e86aaa1519e17ebb7a9289276c6225330c4d8c3b98"), looks := false }, kinds := [], alts := [], laidByText := true, laidKinds := [.data], laidTests := true, laidLooks := .later }
def PostBackCardSaid : Prop := Claim7.holds Tryd.pinned (.plain (OpenSpec.ofChange postBackSpec)) postBackCard

/-- THE TIED CARD OF 'covenantlaw22.PostKept'. -/
def postKeptCard : Claim7 := { stood := { row := postKeptRow, standIns := [], harness := (true, "91fb266e8eb6e8c689bd96e86aaa1519e17ebb7a9289276c6225330c4d8c3b98"), looks := false }, kinds := [], alts := [], laidByText := true, laidKinds := [.data], laidTests := true, laidLooks := .later }
def PostKeptCardSaid : Prop := Claim7.holds Tryd.pinned (.plain (OpenSpec.ofChange postKeptSpec)) postKeptCard

/-- THE TIED CARD OF 'covenantlaw22.PostSpoilt'. -/
def postSpoiltCard : Claim7 := { stood := { row := postSpoiltRow, standIns := [], harness := (true, "91fb266e8eb6e8c689bd96e86aaa1519e17ebb7a9289276c6225330c4d8c3b98"), looks := false }, kinds := [], alts := [], laidByText := true, laidKinds := [.data], laidTests := true, laidLooks := .later }
def PostSpoiltCardSaid : Prop := Claim7.holds Tryd.pinned (.plain (OpenSpec.ofChange postSpoiltSpec)) postSpoiltCard

/-- THE TIED CARD OF 'covenantlaw22.PostSizes'. -/
def postSizesCard : Claim7 := { stood := { row := postSizesRow, standIns := [], harness := (true, "91fb266e8eb6e8c689bd96e86aaa1519e17ebb7a9289276c6225330c4d8c3b98"), looks := false }, kinds := [], alts := [], laidByText := true, laidKinds := [.data], laidTests := true, laidLooks := .later }
def PostSizesCardSaid : Prop := Claim7.holds Tryd.pinned (.plain (OpenSpec.ofChange postSizesSpec)) postSizesCard

/-- THE TIED CARD OF 'covenantlaw22.PostLimits'. -/
def postLimitsCard : Claim7 := { stood := { row := postLimitsRow, standIns := [], harness := (true, "91fb266e8eb6e8c689bd96e86aaa1519e17ebb7a9289276c6225330c4d8c3b98"), looks := false }, kinds := [], alts := [], laidByText := true, laidKinds := [.data], laidTests := true, laidLooks := .later }
def PostLimitsCardSaid : Prop := Claim7.holds Tryd.pinned (.plain (OpenSpec.ofChange postLimitsSpec)) postLimitsCard

/-- THE SECOND FORM's CARD OF 'covenantlaw22.PostTells'. -/
def postTellsUptoCard : Claim7 := { stood := { row := postTellsUptoRow, standIns := [], harness := (true, "91fb266e8eb6e8c689bd96e86aaa1519e17ebb7a9289276c6225330c4d8c3b98"), looks := false }, kinds := [], alts := [], laidByText := true, laidKinds := [.data], laidTests := true, laidLooks := .later }
def PostTellsUptoCardSaid : Prop := Claim7.holds Tryd.pinned (.plain (OpenSpec.upto postTellsSpec)) postTellsUptoCard

/-- THE SECOND FORM's CARD OF 'covenantlaw22.PostBack'. -/
def postBackUptoCard : Claim7 := { stood := { row := postBackUptoRow, standIns := [], harness := (true, "91fb266e8eb6e8c689bd96e86aaa1519e17ebb7a9289276c6225330c4d8c3b98"), looks := false }, kinds := [], alts := [], laidByText := true, laidKinds := [.data], laidTests := true, laidLooks := .later }
def PostBackUptoCardSaid : Prop := Claim7.holds Tryd.pinned (.plain (OpenSpec.upto postBackSpec)) postBackUptoCard

/-- THE SECOND FORM's CARD OF 'covenantlaw22.PostKept'. -/
def postKeptUptoCard : Claim7 := { stood := { row := postKeptUptoRow, standIns := [], harness := (true, "91fb266e8eb6e8c689bd96e86aaa1519e17ebb7a9289276c6225330c4d8c3b98"), looks := false }, kinds := [], alts := [], laidByText := true, laidKinds := [.data], laidTests := true, laidLooks := .later }
def PostKeptUptoCardSaid : Prop := Claim7.holds Tryd.pinned (.plain (OpenSpec.upto postKeptSpec)) postKeptUptoCard

/-- THE SECOND FORM's CARD OF 'covenantlaw22.PostSpoilt'. -/
def postSpoiltUptoCard : Claim7 := { stood := { row := postSpoiltUptoRow, standIns := [], harness := (true, "91fb266e8eb6e8c689bd96e86aaa1519e17ebb7a9289276c6225330c4d8c3b98"), looks := false }, kinds := [], alts := [], laidByText := true, laidKinds := [.data], laidTests := true, laidLooks := .later }
def PostSpoiltUptoCardSaid : Prop := Claim7.holds Tryd.pinned (.plain (OpenSpec.upto postSpoiltSpec)) postSpoiltUptoCard

/-- THE SECOND FORM's CARD OF 'covenantlaw22.PostSizes'. -/
def postSizesUptoCard : Claim7 := { stood := { row := postSizesUptoRow, standIns := [], harness := (true, "91fb266e8eb6e8c689bd96e86aaa1519e17ebb7a9289276c6225330c4d8c3b98"), looks := false }, kinds := [], alts := [], laidByText := true, laidKinds := [.data], laidTests := true, laidLooks := .later }
def PostSizesUptoCardSaid : Prop := Claim7.holds Tryd.pinned (.plain (OpenSpec.upto postSizesSpec)) postSizesUptoCard

/-- THE SECOND FORM's CARD OF 'covenantlaw22.PostLimits'. -/
def postLimitsUptoCard : Claim7 := { stood := { row := postLimitsUptoRow, standIns := [], harness := (true, "91fb266e8eb6e8c689bd96e86aaa1519e17ebb7a9289276c6225330c4d8c3b98"), looks := false }, kinds := [], alts := [], laidByText := true, laidKinds := [.data], laidTests := true, laidLooks := .later }
def PostLimitsUptoCardSaid : Prop := Claim7.holds Tryd.pinned (.plain (OpenSpec.upto postLimitsSpec)) postLimitsUptoCard
end Rows
end Go.Proofs.YtgkdnhbhmebmeaaDoor
