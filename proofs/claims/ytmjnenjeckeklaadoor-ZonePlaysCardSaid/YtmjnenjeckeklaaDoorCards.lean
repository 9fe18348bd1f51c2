/-
  DERIVED. GIVEN WITH THE SEED: THE CARDS: each row of YtmjnenjeckeklaaDoorRows.lean that lists a variable, with what it lists TIED to the program's text (the seventh form; the later family's looks); each row that meets fmt, with fmt's text TOLD by the authors' own Lean function (tested against real Go, not proved from fmt's source: count such statements apart). THE CARD IS WHAT COUNTS. Prove the row's statement (the work); the ties are given (YtmjnenjeckeklaaDoorTie.lean); close each card by the builder's one call (the guide's Derived/Test/ToyasCard.lean, 'card_holds'). Laid BY PROGRAM, IN A SANDBOX (cutbox-door.mjs). By AI agents, Wed Nov 11 2026. No macro, syntax, notation, axiom, sorry.
-/
import Derived.Test.YtmjnenjeckeklaaDoorRows
import GoSem.ClaimSeven
namespace Go.Proofs.YtmjnenjeckeklaaDoor
namespace Rows

/-- THE TIED CARD OF 'paviorlaw08.ZoneNew'. -/
def zoneNewCard : Claim7 := { stood := { row := zoneNewRow, standIns := [], harness := (true, "97a11e0cf899c0e159d1004bd591f1c8f7cc5a591cf54f18ab3278383e86c2b9"), looks := true }, kinds := [], alts := [], laidByText := true, laidKinds := [.data, .data], laidTests := true, laidLooks := .later }
def ZoneNewCardSaid : Prop := Claim7.holds Tryd.pinned (.plain (OpenSpec.ofChange zoneNewSpec)) zoneNewCard

/-- THE TIED CARD OF 'paviorlaw08.ZoneStays'. -/
def zoneStaysCard : Claim7 := { stood := { row := zoneStaysRow, standIns := [], harness := (true, "97a11e0cf899c0e159d1004bd591f1c8f7cc5a591cf54f18ab3278383e86c2b9"), looks := true }, kinds := [], alts := [], laidByText := true, laidKinds := [.data, .data], laidTests := true, laidLooks := .later }
def ZoneStaysCardSaid : Prop := Claim7.holds Tryd.pinned (.plain (OpenSpec.ofChange zoneStaysSpec)) zoneStaysCard

/-- THE TIED CARD OF 'paviorlaw08.ZoneApart'. -/
def zoneApartCard : Claim7 := { stood := { row := zoneApartRow, standIns := [], harness := (true, "97a11e0cf899c0e159d1004bd591f1c8f7cc5a591cf54f18ab3278383e86c2b9"), looks := true }, kinds := [], alts := [], laidByText := true, laidKinds := [.data, .data], laidTests := true, laidLooks := .later }
def ZoneApartCardSaid : Prop := Claim7.holds Tryd.pinned (.plain (OpenSpec.ofChange zoneApartSpec)) zoneApartCard

/-- THE TIED CARD OF 'paviorlaw08.ZoneBack'. -/
def zoneBackCard : Claim7 := { stood := { row := zoneBackRow, standIns := [], harness := (true, "97a11e0cf899c0e159d1004bd591f1c8f7cc5a591cf54f18ab3278383e86c2b9"), looks := true }, kinds := [], alts := [], laidByText := true, laidKinds := [.data, .data], laidTests := true, laidLooks := .later }
def ZoneBackCardSaid : Prop := Claim7.holds Tryd.pinned (.plain (OpenSpec.ofChange zoneBackSpec)) zoneBackCard

/-- THE TIED CARD OF 'paviorlaw08.ZonePlays'. -/
def zonePlaysCard : Claim7 := { stood := { row := zonePlaysRow, standIns := [], harness := (true, "97a11e0cf899c0e159d1004bd591f1c8f7cc5a591cf54f18ab3278383e86c2b9"), looks := true }, kinds := [], alts := [], laidByText := true, laidKinds := [.data, .data], laidTests := true, laidLooks := .later }
def ZonePlaysCardSaid : Prop := Claim7.holds Tryd.pinned (.plain (OpenSpec.ofChange zonePlaysSpec)) zonePlaysCard

/-- THE SECOND FORM's CARD OF 'paviorlaw08.ZoneNew'. -/
def zoneNewUptoCard : Claim7 := { stood := { row := zoneNewUptoRow, standIns := [], harness := (true, "97a11e0cf899c0e159d1004bd591f1c8f7cc5a591cf54f18ab3278383e86c2b9"), looks := true }, kinds := [], alts := [], laidByText := true, laidKinds := [.data, .data], laidTests := true, laidLooks := .later }
def ZoneNewUptoCardSaid : Prop := Claim7.holds Tryd.pinned (.plain (OpenSpec.upto zoneNewSpec)) zoneNewUptoCard

/-- THE SECOND FORM's CARD OF 'paviorlaw08.ZoneStays'. -/
def zoneStaysUptoCard : Claim7 := { stood := { row := zoneStaysUptoRow, standIns := [], harness := (true, "97a11e0cf899c0e159d1004bd591f1c8f7cc5a591cf54f18ab3278383e86c2b9"), looks := true }, kinds := [], alts := [], laidByText := true, laidKinds := [.data, .data], laidTests := true, laidLooks := .later }
def ZoneStaysUptoCardSaid : Prop := Claim7.holds Tryd.pinned (.plain (OpenSpec.upto zoneStaysSpec)) zoneStaysUptoCard

/-- THE SECOND FORM's CARD OF 'paviorlaw08.ZoneApart'. -/
def zoneApartUptoCard : Claim7 := { stood := { row := zoneApartUptoRow, standIns := [], harness := (true, "97a11e0cf899c0e159d1004bd591f1c8f7cc5a591cf54f18ab3278383e86c2b9"), looks := true }, kinds := [], alts := [], laidByText := true, laidKinds := [.data, .data], laidTests := true, laidLooks := .later }
def ZoneApartUptoCardSaid : Prop := Claim7.holds Tryd.pinned (.plain (OpenSpec.upto zoneApartSpec)) zoneApartUptoCard

/-- THE SECOND FORM's CARD OF 'paviorlaw08.ZoneBack'. -/
def zoneBackUptoCard : Claim7 := { stood := { row := zoneBackUptoRow, standIns := [], harness := (true, "97a11e0cf899c0e159d1004bd591f1c8f7cc5a591cf54f18ab3278383e86c2b9"), looks := true }, kinds := [], alts := [], laidByText := true, laidKinds := [.data, .data], laidTests := true, laidLooks := .later }
def ZoneBackUptoCardSaid : Prop := Claim7.holds Tryd.pinned (.plain (OpenSpec.upto zoneBackSpec)) zoneBackUptoCard

/-- THE SECOND FORM's CARD OF 'paviorlaw08.ZonePlays'. -/
def zonePlaysUptoCard : Claim7 := { stood := { row := zonePlaysUptoRow, standIns := [], harness := (true, "97a11e0cf899c0e159d1004bd591f1c8f7cc5a591cf54f18ab3278383e86c2b9"), looks := true }, kinds := [], alts := [], laidByText := true, laidKinds := [.data, .data], laidTests := true, laidLooks := .later }
def ZonePlaysUptoCardSaid : Prop := Claim7.holds Tryd.pinned (.plain (OpenSpec.upto zonePlaysSpec)) zonePlaysUptoCard
end Rows
end Go.Proofs.YtmjnenjeckeklaaDoor
