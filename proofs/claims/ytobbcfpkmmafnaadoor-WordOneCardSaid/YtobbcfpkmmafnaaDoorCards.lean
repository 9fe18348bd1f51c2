/-
  DERIVED. GIVEN WITH THE SEED: THE CARDS: each row of YtobbcfpkmmafnaaDoorRows.lean that lists a variable, with what it lists TIED to the program's text (the seventh form; the later family's looks); each row that meets fmt, with fmt's text TOLD by the authors' own Lean function (tested against real Go, not proved from fmt's source: count such statements apart). THE CARD IS WHAT COUNTS. Prove the row's statement (the work); the ties are given (YtobbcfpkmmafnaaDoorTie.lean); close each card by the builder's one call (the guide's Derived/Test/ToyasCard.lean, 'card_holds'). Laid BY PROGRAM, IN A SANDBOX (cutbox-door.mjs). By AI agents, Wed Nov 11 2026. No macro, syntax, notation, axiom, sorry.
-/
import Derived.Test.YtobbcfpkmmafnaaDoorRows
import GoSem.ClaimSeven
namespace Go.Proofs.YtobbcfpkmmafnaaDoor
namespace Rows

/-- THE TIED CARD OF 'paviorlaw01.WordFields'. -/
def wordFieldsCard : Claim7 := { stood := { row := wordFieldsRow, standIns := [], harness := (true, "f0dfe239db87398248db63adb29566b9aa3a952de2e4c3a35b462bf9667d237f"), looks := true }, kinds := [], alts := [], laidByText := true, laidKinds := [.data, .data], laidTests := true, laidLooks := .later }
def WordFieldsCardSaid : Prop := Claim7.holds Tryd.pinned (.plain (OpenSpec.ofChange wordFieldsSpec)) wordFieldsCard

/-- THE TIED CARD OF 'paviorlaw01.WordCuts'. -/
def wordCutsCard : Claim7 := { stood := { row := wordCutsRow, standIns := [], harness := (true, "f0dfe239db87398248db63adb29566b9aa3a952de2e4c3a35b462bf9667d237f"), looks := true }, kinds := [], alts := [], laidByText := true, laidKinds := [.data, .data], laidTests := true, laidLooks := .later }
def WordCutsCardSaid : Prop := Claim7.holds Tryd.pinned (.plain (OpenSpec.ofChange wordCutsSpec)) wordCutsCard

/-- THE TIED CARD OF 'paviorlaw01.WordFound'. -/
def wordFoundCard : Claim7 := { stood := { row := wordFoundRow, standIns := [], harness := (true, "f0dfe239db87398248db63adb29566b9aa3a952de2e4c3a35b462bf9667d237f"), looks := true }, kinds := [], alts := [], laidByText := true, laidKinds := [.data, .data], laidTests := true, laidLooks := .later }
def WordFoundCardSaid : Prop := Claim7.holds Tryd.pinned (.plain (OpenSpec.ofChange wordFoundSpec)) wordFoundCard

/-- THE TIED CARD OF 'paviorlaw01.WordLies'. -/
def wordLiesCard : Claim7 := { stood := { row := wordLiesRow, standIns := [], harness := (true, "f0dfe239db87398248db63adb29566b9aa3a952de2e4c3a35b462bf9667d237f"), looks := true }, kinds := [], alts := [], laidByText := true, laidKinds := [.data, .data], laidTests := true, laidLooks := .later }
def WordLiesCardSaid : Prop := Claim7.holds Tryd.pinned (.plain (OpenSpec.ofChange wordLiesSpec)) wordLiesCard

/-- THE TIED CARD OF 'paviorlaw01.WordOne'. -/
def wordOneCard : Claim7 := { stood := { row := wordOneRow, standIns := [], harness := (true, "f0dfe239db87398248db63adb29566b9aa3a952de2e4c3a35b462bf9667d237f"), looks := true }, kinds := [], alts := [], laidByText := true, laidKinds := [.data, .data], laidTests := true, laidLooks := .later }
def WordOneCardSaid : Prop := Claim7.holds Tryd.pinned (.plain (OpenSpec.ofChange wordOneSpec)) wordOneCard

/-- THE TIED CARD OF 'paviorlaw01.WordOrders'. -/
def wordOrdersCard : Claim7 := { stood := { row := wordOrdersRow, standIns := [], harness := (true, "f0dfe239db87398248db63adb29566b9aa3a952de2e4c3a35b462bf9667d237f"), looks := true }, kinds := [], alts := [], laidByText := true, laidKinds := [.data, .data], laidTests := true, laidLooks := .later }
def WordOrdersCardSaid : Prop := Claim7.holds Tryd.pinned (.plain (OpenSpec.ofChange wordOrdersSpec)) wordOrdersCard

/-- THE TIED CARD OF 'paviorlaw01.WordAligns'. -/
def wordAlignsCard : Claim7 := { stood := { row := wordAlignsRow, standIns := [], harness := (true, "f0dfe239db87398248db63adb29566b9aa3a952de2e4c3a35b462bf9667d237f"), looks := true }, kinds := [], alts := [], laidByText := true, laidKinds := [.data, .data], laidTests := true, laidLooks := .later }
def WordAlignsCardSaid : Prop := Claim7.holds Tryd.pinned (.plain (OpenSpec.ofChange wordAlignsSpec)) wordAlignsCard

/-- THE TIED CARD OF 'paviorlaw01.WordNear'. -/
def wordNearCard : Claim7 := { stood := { row := wordNearRow, standIns := [], harness := (true, "f0dfe239db87398248db63adb29566b9aa3a952de2e4c3a35b462bf9667d237f"), looks := true }, kinds := [], alts := [], laidByText := true, laidKinds := [.data, .data], laidTests := true, laidLooks := .later }
def WordNearCardSaid : Prop := Claim7.holds Tryd.pinned (.plain (OpenSpec.ofChange wordNearSpec)) wordNearCard

/-- THE SECOND FORM's CARD OF 'paviorlaw01.WordFields'. -/
def wordFieldsUptoCard : Claim7 := { stood := { row := wordFieldsUptoRow, standIns := [], harness := (true, "f0dfe239db87398248db63adb29566b9aa3a952de2e4c3a35b462bf9667d237f"), looks := true }, kinds := [], alts := [], laidByText := true, laidKinds := [.data, .data], laidTests := true, laidLooks := .later }
def WordFieldsUptoCardSaid : Prop := Claim7.holds Tryd.pinned (.plain (OpenSpec.upto wordFieldsSpec)) wordFieldsUptoCard

/-- THE SECOND FORM's CARD OF 'paviorlaw01.WordCuts'. -/
def wordCutsUptoCard : Claim7 := { stood := { row := wordCutsUptoRow, standIns := [], harness := (true, "f0dfe239db87398248db63adb29566b9aa3a952de2e4c3a35b462bf9667d237f"), looks := true }, kinds := [], alts := [], laidByText := true, laidKinds := [.data, .data], laidTests := true, laidLooks := .later }
def WordCutsUptoCardSaid : Prop := Claim7.holds Tryd.pinned (.plain (OpenSpec.upto wordCutsSpec)) wordCutsUptoCard

/-- THE SECOND FORM's CARD OF 'paviorlaw01.WordFound'. -/
def wordFoundUptoCard : Claim7 := { stood := { row := wordFoundUptoRow, standIns := [], harness := (true, "f0dfe239db87398248db63adb29566b9aa3a952de2e4c3a35b462bf9667d237f"), looks := true }, kinds := [], alts := [], laidByText := true, laidKinds := [.data, .data], laidTests := true, laidLooks := .later }
def WordFoundUptoCardSaid : Prop := Claim7.holds Tryd.pinned (.plain (OpenSpec.upto wordFoundSpec)) wordFoundUptoCard

/-- THE SECOND FORM's CARD OF 'paviorlaw01.WordLies'. -/
def wordLiesUptoCard : Claim7 := { stood := { row := wordLiesUptoRow, standIns := [], harness := (true, "f0dfe239db87398248db63adb29566b9aa3a952de2e4c3a35b462bf9667d237f"), looks := true }, kinds := [], alts := [], laidByText := true, laidKinds := [.data, .data], laidTests := true, laidLooks := .later }
def WordLiesUptoCardSaid : Prop := Claim7.holds Tryd.pinned (.plain (OpenSpec.upto wordLiesSpec)) wordLiesUptoCard

/-- THE SECOND FORM's CARD OF 'paviorlaw01.WordOne'. -/
def wordOneUptoCard : Claim7 := { stood := { row := wordOneUptoRow, standIns := [], harness := (true, "f0dfe239db87398248db63adb29566b9aa3a952de2e4c3a35b462bf9667d237f"), looks := true }, kinds := [], alts := [], laidByText := true, laidKinds := [.data, .data], laidTests := true, laidLooks := .later }
def WordOneUptoCardSaid : Prop := Claim7.holds Tryd.pinned (.plain (OpenSpec.upto wordOneSpec)) wordOneUptoCard

/-- THE SECOND FORM's CARD OF 'paviorlaw01.WordOrders'. -/
def wordOrdersUptoCard : Claim7 := { stood := { row := wordOrdersUptoRow, standIns := [], harness := (true, "f0dfe239db87398248db63adb29566b9aa3a952de2e4c3a35b462bf9667d237f"), looks := true }, kinds := [], alts := [], laidByText := true, laidKinds := [.data, .data], laidTests := true, laidLooks := .later }
def WordOrdersUptoCardSaid : Prop := Claim7.holds Tryd.pinned (.plain (OpenSpec.upto wordOrdersSpec)) wordOrdersUptoCard

/-- THE SECOND FORM's CARD OF 'paviorlaw01.WordAligns'. -/
def wordAlignsUptoCard : Claim7 := { stood := { row := wordAlignsUptoRow, standIns := [], harness := (true, "f0dfe239db87398248db63adb29566b9aa3a952de2e4c3a35b462bf9667d237f"), looks := true }, kinds := [], alts := [], laidByText := true, laidKinds := [.data, .data], laidTests := true, laidLooks := .later }
def WordAlignsUptoCardSaid : Prop := Claim7.holds Tryd.pinned (.plain (OpenSpec.upto wordAlignsSpec)) wordAlignsUptoCard

/-- THE SECOND FORM's CARD OF 'paviorlaw01.WordNear'. -/
def wordNearUptoCard : Claim7 := { stood := { row := wordNearUptoRow, standIns := [], harness := (true, "f0dfe239db87398248db63adb29566b9aa3a952de2e4c3a35b462bf9667d237f"), looks := true }, kinds := [], alts := [], laidByText := true, laidKinds := [.data, .data], laidTests := true, laidLooks := .later }
def WordNearUptoCardSaid : Prop := Claim7.holds Tryd.pinned (.plain (OpenSpec.upto wordNearSpec)) wordNearUptoCard
end Rows
end Go.Proofs.YtobbcfpkmmafnaaDoor
