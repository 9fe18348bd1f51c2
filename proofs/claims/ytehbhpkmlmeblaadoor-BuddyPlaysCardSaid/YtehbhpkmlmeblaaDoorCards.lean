/-
  DERIVED. GIVEN WITH THE SEED: THE CARDS: each row of YtehbhpkmlmeblaaDoorRows.lean that lists a variable, with what it lists TIED to the program's text (the seventh form; the later family's looks); each row that meets fmt, with fmt's text TOLD by the authors' own Lean function (tested against real Go, not proved from fmt's source: count such statements apart). THE CARD IS WHAT COUNTS. Prove the row's statement (the work); the ties are given (YtehbhpkmlmeblaaDoorTie.lean); close each card by the builder's one call (the guide's Derived/Test/ToyasCard.lean, 'card_holds'). Laid BY PROGRAM, IN A SANDBOX (cutbox-door.mjs). By AI agents, Wed Nov 11 2026. No macro, syntax, notation, axiom, sorry.
-/
import Derived.Test.YtehbhpkmlmeblaaDoorRows
import GoSem.ClaimSeven
namespace Go.Proofs.YtehbhpkmlmeblaaDoor
namespace Rows

/-- THE TIED CARD OF 'paviorlaw07.BuddyClones'. -/
def buddyClonesCard : Claim7 := { stood := { row := buddyClonesRow, standIns := [], harness := (true, "e60aab8ab7a708478ca496031863e9b22b13157f841841e5fa0c09b6ee9f707a"), looks := true }, kinds := [], alts := [], laidByText := true, laidKinds := [.data, .data], laidTests := true, laidLooks := .later }
def BuddyClonesCardSaid : Prop := Claim7.holds Tryd.pinned (.plain (OpenSpec.ofChange buddyClonesSpec)) buddyClonesCard

/-- THE TIED CARD OF 'paviorlaw07.BuddyNew'. -/
def buddyNewCard : Claim7 := { stood := { row := buddyNewRow, standIns := [], harness := (true, "e60aab8ab7a708478ca496031863e9b22b13157f841841e5fa0c09b6ee9f707a"), looks := true }, kinds := [], alts := [], laidByText := true, laidKinds := [.data, .data], laidTests := true, laidLooks := .later }
def BuddyNewCardSaid : Prop := Claim7.holds Tryd.pinned (.plain (OpenSpec.ofChange buddyNewSpec)) buddyNewCard

/-- THE TIED CARD OF 'paviorlaw07.BuddyWhole'. -/
def buddyWholeCard : Claim7 := { stood := { row := buddyWholeRow, standIns := [], harness := (true, "e60aab8ab7a708478ca496031863e9b22b13157f841841e5fa0c09b6ee9f707a"), looks := true }, kinds := [], alts := [], laidByText := true, laidKinds := [.data, .data], laidTests := true, laidLooks := .later }
def BuddyWholeCardSaid : Prop := Claim7.holds Tryd.pinned (.plain (OpenSpec.ofChange buddyWholeSpec)) buddyWholeCard

/-- THE TIED CARD OF 'paviorlaw07.BuddyTakes'. -/
def buddyTakesCard : Claim7 := { stood := { row := buddyTakesRow, standIns := [], harness := (true, "e60aab8ab7a708478ca496031863e9b22b13157f841841e5fa0c09b6ee9f707a"), looks := true }, kinds := [], alts := [], laidByText := true, laidKinds := [.data, .data], laidTests := true, laidLooks := .later }
def BuddyTakesCardSaid : Prop := Claim7.holds Tryd.pinned (.plain (OpenSpec.ofChange buddyTakesSpec)) buddyTakesCard

/-- THE TIED CARD OF 'paviorlaw07.BuddyPlays'. -/
def buddyPlaysCard : Claim7 := { stood := { row := buddyPlaysRow, standIns := [], harness := (true, "e60aab8ab7a708478ca496031863e9b22b13157f841841e5fa0c09b6ee9f707a"), looks := true }, kinds := [], alts := [], laidByText := true, laidKinds := [.data, .data], laidTests := true, laidLooks := .later }
def BuddyPlaysCardSaid : Prop := Claim7.holds Tryd.pinned (.plain (OpenSpec.ofChange buddyPlaysSpec)) buddyPlaysCard

/-- THE SECOND FORM's CARD OF 'paviorlaw07.BuddyClones'. -/
def buddyClonesUptoCard : Claim7 := { stood := { row := buddyClonesUptoRow, standIns := [], harness := (true, "e60aab8ab7a708478ca496031863e9b22b13157f841841e5fa0c09b6ee9f707a"), looks := true }, kinds := [], alts := [], laidByText := true, laidKinds := [.data, .data], laidTests := true, laidLooks := .later }
def BuddyClonesUptoCardSaid : Prop := Claim7.holds Tryd.pinned (.plain (OpenSpec.upto buddyClonesSpec)) buddyClonesUptoCard

/-- THE SECOND FORM's CARD OF 'paviorlaw07.BuddyNew'. -/
def buddyNewUptoCard : Claim7 := { stood := { row := buddyNewUptoRow, standIns := [], harness := (true, "e60aab8ab7a708478ca496031863e9b22b13157f841841e5fa0c09b6ee9f707a"), looks := true }, kinds := [], alts := [], laidByText := true, laidKinds := [.data, .data], laidTests := true, laidLooks := .later }
def BuddyNewUptoCardSaid : Prop := Claim7.holds Tryd.pinned (.plain (OpenSpec.upto buddyNewSpec)) buddyNewUptoCard

/-- THE SECOND FORM's CARD OF 'paviorlaw07.BuddyWhole'. -/
def buddyWholeUptoCard : Claim7 := { stood := { row := buddyWholeUptoRow, standIns := [], harness := (true, "e60aab8ab7a708478ca496031863e9b22b13157f841841e5fa0c09b6ee9f707a"), looks := true }, kinds := [], alts := [], laidByText := true, laidKinds := [.data, .data], laidTests := true, laidLooks := .later }
def BuddyWholeUptoCardSaid : Prop := Claim7.holds Tryd.pinned (.plain (OpenSpec.upto buddyWholeSpec)) buddyWholeUptoCard

/-- THE SECOND FORM's CARD OF 'paviorlaw07.BuddyTakes'. -/
def buddyTakesUptoCard : Claim7 := { stood := { row := buddyTakesUptoRow, standIns := [], harness := (true, "e60aab8ab7a708478ca496031863e9b22b13157f841841e5fa0c09b6ee9f707a"), looks := true }, kinds := [], alts := [], laidByText := true, laidKinds := [.data, .data], laidTests := true, laidLooks := .later }
def BuddyTakesUptoCardSaid : Prop := Claim7.holds Tryd.pinned (.plain (OpenSpec.upto buddyTakesSpec)) buddyTakesUptoCard

/-- THE SECOND FORM's CARD OF 'paviorlaw07.BuddyPlays'. -/
def buddyPlaysUptoCard : Claim7 := { stood := { row := buddyPlaysUptoRow, standIns := [], harness := (true, "e60aab8ab7a708478ca496031863e9b22b13157f841841e5fa0c09b6ee9f707a"), looks := true }, kinds := [], alts := [], laidByText := true, laidKinds := [.data, .data], laidTests := true, laidLooks := .later }
def BuddyPlaysUptoCardSaid : Prop := Claim7.holds Tryd.pinned (.plain (OpenSpec.upto buddyPlaysSpec)) buddyPlaysUptoCard
end Rows
end Go.Proofs.YtehbhpkmlmeblaaDoor
