/-
  DERIVED. GIVEN WITH THE SEED: THE CARDS: each row of YtomlfliebolkmaaDoorRows.lean that lists a variable, with what it lists TIED to the program's text (the seventh form; the later family's looks); each row that meets fmt, with fmt's text TOLD by the authors' own Lean function (tested against real Go, not proved from fmt's source: count such statements apart). THE CARD IS WHAT COUNTS. Prove the row's statement (the work); the ties are given (YtomlfliebolkmaaDoorTie.lean); close each card by the builder's one call (the guide's Derived/Test/ToyasCard.lean, 'card_holds'). Laid BY PROGRAM, IN A SANDBOX (cutbox-door.mjs). By AI agents, Wed Nov 11 2026. No macro, syntax, notation, axiom, sorry.
-/
import Derived.Test.YtomlfliebolkmaaDoorRows
import GoSem.ClaimSeven
namespace Go.Proofs.YtomlfliebolkmaaDoor
namespace Rows

/-- THE TIED CARD OF 'waterhourlaw05.HoursLight'. -/
def hoursLightCard : Claim7 := { stood := { row := hoursLightRow, standIns := [], harness := (true, "45a809e395af8cdff676ed8e9f1ddb37669023ce0e0d748ee8af596998fe154e"), looks := true }, kinds := [], alts := [], laidByText := true, laidKinds := [.data, .data, .data], laidTests := true, laidLooks := .later }
def HoursLightCardSaid : Prop := Claim7.holds Tryd.pinned (.plain (OpenSpec.ofChange hoursLightSpec)) hoursLightCard

/-- THE TIED CARD OF 'waterhourlaw05.HoursLater'. -/
def hoursLaterCard : Claim7 := { stood := { row := hoursLaterRow, standIns := [], harness := (true, "45a809e395af8cdff676ed8e9f1ddb37669023ce0e0d748ee8af596998fe154e"), looks := true }, kinds := [], alts := [], laidByText := true, laidKinds := [.data, .data, .data], laidTests := true, laidLooks := .later }
def HoursLaterCardSaid : Prop := Claim7.holds Tryd.pinned (.plain (OpenSpec.ofChange hoursLaterSpec)) hoursLaterCard

/-- THE TIED CARD OF 'waterhourlaw05.HoursCycles'. -/
def hoursCyclesCard : Claim7 := { stood := { row := hoursCyclesRow, standIns := [], harness := (true, "45a809e395af8cdff676ed8e9f1ddb37669023ce0e0d748ee8af596998fe154e"), looks := true }, kinds := [], alts := [], laidByText := true, laidKinds := [.data, .data, .data], laidTests := true, laidLooks := .later }
def HoursCyclesCardSaid : Prop := Claim7.holds Tryd.pinned (.plain (OpenSpec.ofChange hoursCyclesSpec)) hoursCyclesCard

/-- THE TIED CARD OF 'waterhourlaw05.HoursLines'. -/
def hoursLinesCard : Claim7 := { stood := { row := hoursLinesRow, standIns := [], harness := (true, "45a809e395af8cdff676ed8e9f1ddb37669023ce0e0d748ee8af596998fe154e"), looks := true }, kinds := [], alts := [], laidByText := true, laidKinds := [.data, .data, .data], laidTests := true, laidLooks := .later }
def HoursLinesCardSaid : Prop := Claim7.holds Tryd.pinned (.plain (OpenSpec.ofChange hoursLinesSpec)) hoursLinesCard

/-- THE TIED CARD OF 'waterhourlaw05.HoursTexts'. -/
def hoursTextsCard : Claim7 := { stood := { row := hoursTextsRow, standIns := [], harness := (true, "45a809e395af8cdff676ed8e9f1ddb37669023ce0e0d748ee8af596998fe154e"), looks := true }, kinds := [], alts := [], laidByText := true, laidKinds := [.data, .data, .data, .sentinel, .sentinel], laidTests := true, laidLooks := .later }
def HoursTextsCardSaid : Prop := Claim7.holds Tryd.pinned (.plain (OpenSpec.ofChange hoursTextsSpec)) hoursTextsCard

/-- THE TIED CARD OF 'waterhourlaw05.HoursDates'. -/
def hoursDatesCard : Claim7 := { stood := { row := hoursDatesRow, standIns := [], harness := (true, "45a809e395af8cdff676ed8e9f1ddb37669023ce0e0d748ee8af596998fe154e"), looks := true }, kinds := [], alts := [], laidByText := true, laidKinds := [.data, .data, .data], laidTests := true, laidLooks := .later }
def HoursDatesCardSaid : Prop := Claim7.holds Tryd.pinned (.plain (OpenSpec.ofChange hoursDatesSpec)) hoursDatesCard

/-- THE TIED CARD OF 'waterhourlaw05.HoursCalendars'. -/
def hoursCalendarsCard : Claim7 := { stood := { row := hoursCalendarsRow, standIns := [], harness := (true, "45a809e395af8cdff676ed8e9f1ddb37669023ce0e0d748ee8af596998fe154e"), looks := true }, kinds := [], alts := [], laidByText := true, laidKinds := [.data, .data, .data], laidTests := true, laidLooks := .later }
def HoursCalendarsCardSaid : Prop := Claim7.holds Tryd.pinned (.plain (OpenSpec.ofChange hoursCalendarsSpec)) hoursCalendarsCard

/-- THE TIED CARD OF 'waterhourlaw05.HoursFeasts'. -/
def hoursFeastsCard : Claim7 := { stood := { row := hoursFeastsRow, standIns := [], harness := (true, "45a809e395af8cdff676ed8e9f1ddb37669023ce0e0d748ee8af596998fe154e"), looks := true }, kinds := [], alts := [], laidByText := true, laidKinds := [.data, .data, .data], laidTests := true, laidLooks := .later }
def HoursFeastsCardSaid : Prop := Claim7.holds Tryd.pinned (.plain (OpenSpec.ofChange hoursFeastsSpec)) hoursFeastsCard

/-- THE TIED CARD OF 'waterhourlaw05.HoursBothWays'. -/
def hoursBothWaysCard : Claim7 := { stood := { row := hoursBothWaysRow, standIns := [], harness := (true, "45a809e395af8cdff676ed8e9f1ddb37669023ce0e0d748ee8af596998fe154e"), looks := true }, kinds := [], alts := [], laidByText := true, laidKinds := [.data, .data, .data], laidTests := true, laidLooks := .later }
def HoursBothWaysCardSaid : Prop := Claim7.holds Tryd.pinned (.plain (OpenSpec.ofChange hoursBothWaysSpec)) hoursBothWaysCard

/-- THE TIED CARD OF 'waterhourlaw05.HoursTwelve'. -/
def hoursTwelveCard : Claim7 := { stood := { row := hoursTwelveRow, standIns := [], harness := (true, "45a809e395af8cdff676ed8e9f1ddb37669023ce0e0d748ee8af596998fe154e"), looks := true }, kinds := [], alts := [], laidByText := true, laidKinds := [.data, .data, .data], laidTests := true, laidLooks := .later }
def HoursTwelveCardSaid : Prop := Claim7.holds Tryd.pinned (.plain (OpenSpec.ofChange hoursTwelveSpec)) hoursTwelveCard

/-- THE TIED CARD OF 'waterhourlaw05.HoursAdd'. -/
def hoursAddCard : Claim7 := { stood := { row := hoursAddRow, standIns := [], harness := (true, "45a809e395af8cdff676ed8e9f1ddb37669023ce0e0d748ee8af596998fe154e"), looks := true }, kinds := [], alts := [], laidByText := true, laidKinds := [.data, .data, .data], laidTests := true, laidLooks := .later }
def HoursAddCardSaid : Prop := Claim7.holds Tryd.pinned (.plain (OpenSpec.ofChange hoursAddSpec)) hoursAddCard

/-- THE TIED CARD OF 'waterhourlaw05.HoursMoved'. -/
def hoursMovedCard : Claim7 := { stood := { row := hoursMovedRow, standIns := [], harness := (true, "45a809e395af8cdff676ed8e9f1ddb37669023ce0e0d748ee8af596998fe154e"), looks := true }, kinds := [], alts := [], laidByText := true, laidKinds := [.data, .data, .data], laidTests := true, laidLooks := .later }
def HoursMovedCardSaid : Prop := Claim7.holds Tryd.pinned (.plain (OpenSpec.ofChange hoursMovedSpec)) hoursMovedCard

/-- THE TIED CARD OF 'waterhourlaw05.HoursBegin'. -/
def hoursBeginCard : Claim7 := { stood := { row := hoursBeginRow, standIns := [], harness := (true, "45a809e395af8cdff676ed8e9f1ddb37669023ce0e0d748ee8af596998fe154e"), looks := true }, kinds := [], alts := [], laidByText := true, laidKinds := [.data, .data, .data], laidTests := true, laidLooks := .later }
def HoursBeginCardSaid : Prop := Claim7.holds Tryd.pinned (.plain (OpenSpec.ofChange hoursBeginSpec)) hoursBeginCard

/-- THE TIED CARD OF 'waterhourlaw05.HoursMoments'. -/
def hoursMomentsCard : Claim7 := { stood := { row := hoursMomentsRow, standIns := [], harness := (true, "45a809e395af8cdff676ed8e9f1ddb37669023ce0e0d748ee8af596998fe154e"), looks := true }, kinds := [], alts := [], laidByText := true, laidKinds := [.data, .data, .data], laidTests := true, laidLooks := .later }
def HoursMomentsCardSaid : Prop := Claim7.holds Tryd.pinned (.plain (OpenSpec.ofChange hoursMomentsSpec)) hoursMomentsCard

/-- THE TIED CARD OF 'waterhourlaw05.HoursBells'. -/
def hoursBellsCard : Claim7 := { stood := { row := hoursBellsRow, standIns := [], harness := (true, "45a809e395af8cdff676ed8e9f1ddb37669023ce0e0d748ee8af596998fe154e"), looks := true }, kinds := [], alts := [], laidByText := true, laidKinds := [.data, .data, .data], laidTests := true, laidLooks := .later }
def HoursBellsCardSaid : Prop := Claim7.holds Tryd.pinned (.plain (OpenSpec.ofChange hoursBellsSpec)) hoursBellsCard

/-- THE SECOND FORM's CARD OF 'waterhourlaw05.HoursLight'. -/
def hoursLightUptoCard : Claim7 := { stood := { row := hoursLightUptoRow, standIns := [], harness := (true, "45a809e395af8cdff676ed8e9f1ddb37669023ce0e0d748ee8af596998fe154e"), looks := true }, kinds := [], alts := [], laidByText := true, laidKinds := [.data, .data, .data], laidTests := true, laidLooks := .later }
def HoursLightUptoCardSaid : Prop := Claim7.holds Tryd.pinned (.plain (OpenSpec.upto hoursLightSpec)) hoursLightUptoCard

/-- THE SECOND FORM's CARD OF 'waterhourlaw05.HoursLater'. -/
def hoursLaterUptoCard : Claim7 := { stood := { row := hoursLaterUptoRow, standIns := [], harness := (true, "45a809e395af8cdff676ed8e9f1ddb37669023ce0e0d748ee8af596998fe154e"), looks := true }, kinds := [], alts := [], laidByText := true, laidKinds := [.data, .data, .data], laidTests := true, laidLooks := .later }
def HoursLaterUptoCardSaid : Prop := Claim7.holds Tryd.pinned (.plain (OpenSpec.upto hoursLaterSpec)) hoursLaterUptoCard

/-- THE SECOND FORM's CARD OF 'waterhourlaw05.HoursCycles'. -/
def hoursCyclesUptoCard : Claim7 := { stood := { row := hoursCyclesUptoRow, standIns := [], harness := (true, "45a809e395af8cdff676ed8e9f1ddb37669023ce0e0d748ee8af596998fe154e"), looks := true }, kinds := [], alts := [], laidByText := true, laidKinds := [.data, .data, .data], laidTests := true, laidLooks := .later }
def HoursCyclesUptoCardSaid : Prop := Claim7.holds Tryd.pinned (.plain (OpenSpec.upto hoursCyclesSpec)) hoursCyclesUptoCard

/-- THE SECOND FORM's CARD OF 'waterhourlaw05.HoursLines'. -/
def hoursLinesUptoCard : Claim7 := { stood := { row := hoursLinesUptoRow, standIns := [], harness := (true, "45a809e395af8cdff676ed8e9f1ddb37669023ce0e0d748ee8af596998fe154e"), looks := true }, kinds := [], alts := [], laidByText := true, laidKinds := [.data, .data, .data], laidTests := true, laidLooks := .later }
def HoursLinesUptoCardSaid : Prop := Claim7.holds Tryd.pinned (.plain (OpenSpec.upto hoursLinesSpec)) hoursLinesUptoCard

/-- THE SECOND FORM's CARD OF 'waterhourlaw05.HoursTexts'. -/
def hoursTextsUptoCard : Claim7 := { stood := { row := hoursTextsUptoRow, standIns := [], harness := (true, "45a809e395af8cdff676ed8e9f1ddb37669023ce0e0d748ee8af596998fe154e"), looks := true }, kinds := [], alts := [], laidByText := true, laidKinds := [.data, .data, .data, .sentinel, .sentinel], laidTests := true, laidLooks := .later }
def HoursTextsUptoCardSaid : Prop := Claim7.holds Tryd.pinned (.plain (OpenSpec.upto hoursTextsSpec)) hoursTextsUptoCard

/-- THE SECOND FORM's CARD OF 'waterhourlaw05.HoursDates'. -/
def hoursDatesUptoCard : Claim7 := { stood := { row := hoursDatesUptoRow, standIns := [], harness := (true, "45a809e395af8cdff676ed8e9f1ddb37669023ce0e0d748ee8af596998fe154e"), looks := true }, kinds := [], alts := [], laidByText := true, laidKinds := [.data, .data, .data], laidTests := true, laidLooks := .later }
def HoursDatesUptoCardSaid : Prop := Claim7.holds Tryd.pinned (.plain (OpenSpec.upto hoursDatesSpec)) hoursDatesUptoCard

/-- THE SECOND FORM's CARD OF 'waterhourlaw05.HoursCalendars'. -/
def hoursCalendarsUptoCard : Claim7 := { stood := { row := hoursCalendarsUptoRow, standIns := [], harness := (true, "45a809e395af8cdff676ed8e9f1ddb37669023ce0e0d748ee8af596998fe154e"), looks := true }, kinds := [], alts := [], laidByText := true, laidKinds := [.data, .data, .data], laidTests := true, laidLooks := .later }
def HoursCalendarsUptoCardSaid : Prop := Claim7.holds Tryd.pinned (.plain (OpenSpec.upto hoursCalendarsSpec)) hoursCalendarsUptoCard

/-- THE SECOND FORM's CARD OF 'waterhourlaw05.HoursFeasts'. -/
def hoursFeastsUptoCard : Claim7 := { stood := { row := hoursFeastsUptoRow, standIns := [], harness := (true, "45a809e395af8cdff676ed8e9f1ddb37669023ce0e0d748ee8af596998fe154e"), looks := true }, kinds := [], alts := [], laidByText := true, laidKinds := [.data, .data, .data], laidTests := true, laidLooks := .later }
def HoursFeastsUptoCardSaid : Prop := Claim7.holds Tryd.pinned (.plain (OpenSpec.upto hoursFeastsSpec)) hoursFeastsUptoCard

/-- THE SECOND FORM's CARD OF 'waterhourlaw05.HoursBothWays'. -/
def hoursBothWaysUptoCard : Claim7 := { stood := { row := hoursBothWaysUptoRow, standIns := [], harness := (true, "45a809e395af8cdff676ed8e9f1ddb37669023ce0e0d748ee8af596998fe154e"), looks := true }, kinds := [], alts := [], laidByText := true, laidKinds := [.data, .data, .data], laidTests := true, laidLooks := .later }
def HoursBothWaysUptoCardSaid : Prop := Claim7.holds Tryd.pinned (.plain (OpenSpec.upto hoursBothWaysSpec)) hoursBothWaysUptoCard

/-- THE SECOND FORM's CARD OF 'waterhourlaw05.HoursTwelve'. -/
def hoursTwelveUptoCard : Claim7 := { stood := { row := hoursTwelveUptoRow, standIns := [], harness := (true, "45a809e395af8cdff676ed8e9f1ddb37669023ce0e0d748ee8af596998fe154e"), looks := true }, kinds := [], alts := [], laidByText := true, laidKinds := [.data, .data, .data], laidTests := true, laidLooks := .later }
def HoursTwelveUptoCardSaid : Prop := Claim7.holds Tryd.pinned (.plain (OpenSpec.upto hoursTwelveSpec)) hoursTwelveUptoCard

/-- THE SECOND FORM's CARD OF 'waterhourlaw05.HoursAdd'. -/
def hoursAddUptoCard : Claim7 := { stood := { row := hoursAddUptoRow, standIns := [], harness := (true, "45a809e395af8cdff676ed8e9f1ddb37669023ce0e0d748ee8af596998fe154e"), looks := true }, kinds := [], alts := [], laidByText := true, laidKinds := [.data, .data, .data], laidTests := true, laidLooks := .later }
def HoursAddUptoCardSaid : Prop := Claim7.holds Tryd.pinned (.plain (OpenSpec.upto hoursAddSpec)) hoursAddUptoCard

/-- THE SECOND FORM's CARD OF 'waterhourlaw05.HoursMoved'. -/
def hoursMovedUptoCard : Claim7 := { stood := { row := hoursMovedUptoRow, standIns := [], harness := (true, "45a809e395af8cdff676ed8e9f1ddb37669023ce0e0d748ee8af596998fe154e"), looks := true }, kinds := [], alts := [], laidByText := true, laidKinds := [.data, .data, .data], laidTests := true, laidLooks := .later }
def HoursMovedUptoCardSaid : Prop := Claim7.holds Tryd.pinned (.plain (OpenSpec.upto hoursMovedSpec)) hoursMovedUptoCard

/-- THE SECOND FORM's CARD OF 'waterhourlaw05.HoursBegin'. -/
def hoursBeginUptoCard : Claim7 := { stood := { row := hoursBeginUptoRow, standIns := [], harness := (true, "45a809e395af8cdff676ed8e9f1ddb37669023ce0e0d748ee8af596998fe154e"), looks := true }, kinds := [], alts := [], laidByText := true, laidKinds := [.data, .data, .data], laidTests := true, laidLooks := .later }
def HoursBeginUptoCardSaid : Prop := Claim7.holds Tryd.pinned (.plain (OpenSpec.upto hoursBeginSpec)) hoursBeginUptoCard

/-- THE SECOND FORM's CARD OF 'waterhourlaw05.HoursMoments'. -/
def hoursMomentsUptoCard : Claim7 := { stood := { row := hoursMomentsUptoRow, standIns := [], harness := (true, "45a809e395af8cdff676ed8e9f1ddb37669023ce0e0d748ee8af596998fe154e"), looks := true }, kinds := [], alts := [], laidByText := true, laidKinds := [.data, .data, .data], laidTests := true, laidLooks := .later }
def HoursMomentsUptoCardSaid : Prop := Claim7.holds Tryd.pinned (.plain (OpenSpec.upto hoursMomentsSpec)) hoursMomentsUptoCard

/-- THE SECOND FORM's CARD OF 'waterhourlaw05.HoursBells'. -/
def hoursBellsUptoCard : Claim7 := { stood := { row := hoursBellsUptoRow, standIns := [], harness := (true, "45a809e395af8cdff676ed8e9f1ddb37669023ce0e0d748ee8af596998fe154e"), looks := true }, kinds := [], alts := [], laidByText := true, laidKinds := [.data, .data, .data], laidTests := true, laidLooks := .later }
def HoursBellsUptoCardSaid : Prop := Claim7.holds Tryd.pinned (.plain (OpenSpec.upto hoursBellsSpec)) hoursBellsUptoCard
end Rows
end Go.Proofs.YtomlfliebolkmaaDoor
