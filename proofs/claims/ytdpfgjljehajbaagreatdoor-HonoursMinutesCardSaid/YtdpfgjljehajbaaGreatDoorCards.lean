/-
  DERIVED. GIVEN WITH THE SEED: THE CARDS: each row of YtdpfgjljehajbaaGreatDoorRows.lean that lists a variable, with what it lists TIED to the program's text (the seventh form; the later family's looks); each row that meets fmt, with fmt's text TOLD by the authors' own Lean function (tested against real Go, not proved from fmt's source: count such statements apart). THE CARD IS WHAT COUNTS. Prove the row's statement (the work); the ties are given (YtdpfgjljehajbaaGreatDoorTie.lean); close each card by the builder's one call (the guide's Derived/Test/ToyasCard.lean, 'card_holds'). Laid BY PROGRAM, IN A SANDBOX (cutbox-door.mjs). By AI agents, Wed Nov 11 2026. No macro, syntax, notation, axiom, sorry.
-/
import Derived.Test.YtdpfgjljehajbaaGreatDoorRows
import GoSem.ClaimSeven
namespace Go.Proofs.YtdpfgjljehajbaaGreatDoor
namespace Rows

/-- THE TIED CARD OF 'sennetlaw05.HonoursAt'. -/
def honoursAtCard : Claim7 := { stood := { row := honoursAtRow, standIns := [], harness := (true, "3a186af1b2027ba33b2885bf5840cdc6fead5f27ca1ba81e124aea93eac250d8"), looks := true }, kinds := [], alts := [], laidByText := true, laidKinds := [.data, .data, .data, .data, .sentinel, .sentinel, .pinned], laidTests := true, laidLooks := .later }
def HonoursAtCardSaid : Prop := Claim7.holds Tryz.pinned (.plain (OpenSpec.ofChange honoursAtSpec)) honoursAtCard

/-- THE TIED CARD OF 'sennetlaw05.HonoursNext'. -/
def honoursNextCard : Claim7 := { stood := { row := honoursNextRow, standIns := [], harness := (true, "3a186af1b2027ba33b2885bf5840cdc6fead5f27ca1ba81e124aea93eac250d8"), looks := true }, kinds := [], alts := [], laidByText := true, laidKinds := [.data, .data, .data, .data, .sentinel, .sentinel, .pinned], laidTests := true, laidLooks := .later }
def HonoursNextCardSaid : Prop := Claim7.holds Tryz.pinned (.plain (OpenSpec.ofChange honoursNextSpec)) honoursNextCard

/-- THE TIED CARD OF 'sennetlaw05.HonoursIdle'. -/
def honoursIdleCard : Claim7 := { stood := { row := honoursIdleRow, standIns := [], harness := (true, "3a186af1b2027ba33b2885bf5840cdc6fead5f27ca1ba81e124aea93eac250d8"), looks := true }, kinds := [], alts := [], laidByText := true, laidKinds := [.data, .data, .data, .data, .sentinel, .sentinel, .pinned], laidTests := true, laidLooks := .later }
def HonoursIdleCardSaid : Prop := Claim7.holds Tryz.pinned (.plain (OpenSpec.ofChange honoursIdleSpec)) honoursIdleCard

/-- THE TIED CARD OF 'sennetlaw05.HonoursGuns'. -/
def honoursGunsCard : Claim7 := { stood := { row := honoursGunsRow, standIns := [], harness := (true, "3a186af1b2027ba33b2885bf5840cdc6fead5f27ca1ba81e124aea93eac250d8"), looks := true }, kinds := [], alts := [], laidByText := true, laidKinds := [.data, .data, .data, .data, .sentinel, .sentinel, .pinned], laidTests := true, laidLooks := .later }
def HonoursGunsCardSaid : Prop := Claim7.holds Tryz.pinned (.plain (OpenSpec.ofChange honoursGunsSpec)) honoursGunsCard

/-- THE TIED CARD OF 'sennetlaw05.HonoursWrites'. -/
def honoursWritesCard : Claim7 := { stood := { row := honoursWritesRow, standIns := [], harness := (true, "3a186af1b2027ba33b2885bf5840cdc6fead5f27ca1ba81e124aea93eac250d8"), looks := true }, kinds := [], alts := [], laidByText := true, laidKinds := [.data, .data, .data, .data, .sentinel, .sentinel, .pinned], laidTests := true, laidLooks := .later }
def HonoursWritesCardSaid : Prop := Claim7.holds Tryz.pinned (.plain (OpenSpec.ofChange honoursWritesSpec)) honoursWritesCard

/-- THE TIED CARD OF 'sennetlaw05.HonoursEnters'. -/
def honoursEntersCard : Claim7 := { stood := { row := honoursEntersRow, standIns := [], harness := (true, "3a186af1b2027ba33b2885bf5840cdc6fead5f27ca1ba81e124aea93eac250d8"), looks := true }, kinds := [], alts := [], laidByText := true, laidKinds := [.data, .data, .data, .data, .sentinel, .sentinel, .pinned], laidTests := true, laidLooks := .later }
def HonoursEntersCardSaid : Prop := Claim7.holds Tryz.pinned (.plain (OpenSpec.ofChange honoursEntersSpec)) honoursEntersCard

/-- THE TIED CARD OF 'sennetlaw05.HonoursZones'. -/
def honoursZonesCard : Claim7 := { stood := { row := honoursZonesRow, standIns := [], harness := (true, "3a186af1b2027ba33b2885bf5840cdc6fead5f27ca1ba81e124aea93eac250d8"), looks := true }, kinds := [], alts := [], laidByText := true, laidKinds := [.data, .data, .data, .data, .sentinel, .sentinel, .pinned], laidTests := true, laidLooks := .later }
def HonoursZonesCardSaid : Prop := Claim7.holds Tryz.pinned (.plain (OpenSpec.ofChange honoursZonesSpec)) honoursZonesCard

/-- THE TIED CARD OF 'sennetlaw05.HonoursChecks'. -/
def honoursChecksCard : Claim7 := { stood := { row := honoursChecksRow, standIns := [], harness := (true, "3a186af1b2027ba33b2885bf5840cdc6fead5f27ca1ba81e124aea93eac250d8"), looks := true }, kinds := [], alts := [], laidByText := true, laidKinds := [.data, .data, .data, .data, .sentinel, .sentinel, .pinned], laidTests := true, laidLooks := .later }
def HonoursChecksCardSaid : Prop := Claim7.holds Tryz.pinned (.plain (OpenSpec.ofChange honoursChecksSpec)) honoursChecksCard

/-- THE TIED CARD OF 'sennetlaw05.HonoursRanks'. -/
def honoursRanksCard : Claim7 := { stood := { row := honoursRanksRow, standIns := [], harness := (true, "3a186af1b2027ba33b2885bf5840cdc6fead5f27ca1ba81e124aea93eac250d8"), looks := true }, kinds := [], alts := [], laidByText := true, laidKinds := [.data, .data, .data, .data, .sentinel, .sentinel, .pinned], laidTests := true, laidLooks := .later }
def HonoursRanksCardSaid : Prop := Claim7.holds Tryz.pinned (.plain (OpenSpec.ofChange honoursRanksSpec)) honoursRanksCard

/-- THE TIED CARD OF 'sennetlaw05.HonoursTimes'. -/
def honoursTimesCard : Claim7 := { stood := { row := honoursTimesRow, standIns := [], harness := (true, "3a186af1b2027ba33b2885bf5840cdc6fead5f27ca1ba81e124aea93eac250d8"), looks := true }, kinds := [], alts := [], laidByText := true, laidKinds := [.data, .data, .data, .data, .sentinel, .sentinel, .pinned], laidTests := true, laidLooks := .later }
def HonoursTimesCardSaid : Prop := Claim7.holds Tryz.pinned (.plain (OpenSpec.ofChange honoursTimesSpec)) honoursTimesCard

/-- THE TIED CARD OF 'sennetlaw05.HonoursLines'. -/
def honoursLinesCard : Claim7 := { stood := { row := honoursLinesRow, standIns := [], harness := (true, "3a186af1b2027ba33b2885bf5840cdc6fead5f27ca1ba81e124aea93eac250d8"), looks := true }, kinds := [], alts := [], laidByText := true, laidKinds := [.data, .data, .data, .data, .sentinel, .sentinel, .pinned], laidTests := true, laidLooks := .later }
def HonoursLinesCardSaid : Prop := Claim7.holds Tryz.pinned (.plain (OpenSpec.ofChange honoursLinesSpec)) honoursLinesCard

/-- THE TIED CARD OF 'sennetlaw05.HonoursMinutes'. -/
def honoursMinutesCard : Claim7 := { stood := { row := honoursMinutesRow, standIns := [], harness := (true, "3a186af1b2027ba33b2885bf5840cdc6fead5f27ca1ba81e124aea93eac250d8"), looks := true }, kinds := [], alts := [], laidByText := true, laidKinds := [.data, .data, .data, .data, .sentinel, .sentinel, .pinned], laidTests := true, laidLooks := .later }
def HonoursMinutesCardSaid : Prop := Claim7.holds Tryz.pinned (.plain (OpenSpec.ofChange honoursMinutesSpec)) honoursMinutesCard

/-- THE TIED CARD OF 'sennetlaw05.HonoursBattery'. -/
def honoursBatteryCard : Claim7 := { stood := { row := honoursBatteryRow, standIns := [], harness := (true, "3a186af1b2027ba33b2885bf5840cdc6fead5f27ca1ba81e124aea93eac250d8"), looks := true }, kinds := [], alts := [], laidByText := true, laidKinds := [.data, .data, .data, .data, .sentinel, .sentinel, .pinned], laidTests := true, laidLooks := .later }
def HonoursBatteryCardSaid : Prop := Claim7.holds Tryz.pinned (.plain (OpenSpec.ofChange honoursBatterySpec)) honoursBatteryCard

/-- THE TIED CARD OF 'sennetlaw05.HonoursFirst'. -/
def honoursFirstCard : Claim7 := { stood := { row := honoursFirstRow, standIns := [], harness := (true, "3a186af1b2027ba33b2885bf5840cdc6fead5f27ca1ba81e124aea93eac250d8"), looks := true }, kinds := [], alts := [], laidByText := true, laidKinds := [.data, .data, .data, .data, .sentinel, .sentinel, .pinned], laidTests := true, laidLooks := .later }
def HonoursFirstCardSaid : Prop := Claim7.holds Tryz.pinned (.plain (OpenSpec.ofChange honoursFirstSpec)) honoursFirstCard

/-- THE TIED CARD OF 'sennetlaw05.HonoursTunes'. -/
def honoursTunesCard : Claim7 := { stood := { row := honoursTunesRow, standIns := [], harness := (true, "3a186af1b2027ba33b2885bf5840cdc6fead5f27ca1ba81e124aea93eac250d8"), looks := true }, kinds := [], alts := [], laidByText := true, laidKinds := [.data, .data, .data, .data, .sentinel, .sentinel, .pinned], laidTests := true, laidLooks := .later }
def HonoursTunesCardSaid : Prop := Claim7.holds Tryz.pinned (.plain (OpenSpec.ofChange honoursTunesSpec)) honoursTunesCard

/-- THE TIED CARD OF 'sennetlaw05.HonoursTurns'. -/
def honoursTurnsCard : Claim7 := { stood := { row := honoursTurnsRow, standIns := [], harness := (true, "3a186af1b2027ba33b2885bf5840cdc6fead5f27ca1ba81e124aea93eac250d8"), looks := true }, kinds := [], alts := [], laidByText := true, laidKinds := [.data, .data, .data, .data, .sentinel, .sentinel, .pinned], laidTests := true, laidLooks := .later }
def HonoursTurnsCardSaid : Prop := Claim7.holds Tryz.pinned (.plain (OpenSpec.ofChange honoursTurnsSpec)) honoursTurnsCard

/-- THE TIED CARD OF 'sennetlaw05.HonoursTimesSpent'. -/
def honoursTimesSpentCard : Claim7 := { stood := { row := honoursTimesSpentRow, standIns := [], harness := (true, "3a186af1b2027ba33b2885bf5840cdc6fead5f27ca1ba81e124aea93eac250d8"), looks := true }, kinds := [], alts := [], laidByText := true, laidKinds := [.data, .data, .data, .data, .sentinel, .sentinel, .pinned], laidTests := true, laidLooks := .later }
def HonoursTimesSpentCardSaid : Prop := Claim7.holds Tryz.pinned (.plain (OpenSpec.ofChange honoursTimesSpentSpec)) honoursTimesSpentCard

/-- THE TIED CARD OF 'sennetlaw05.HonoursGaps'. -/
def honoursGapsCard : Claim7 := { stood := { row := honoursGapsRow, standIns := [], harness := (true, "3a186af1b2027ba33b2885bf5840cdc6fead5f27ca1ba81e124aea93eac250d8"), looks := true }, kinds := [], alts := [], laidByText := true, laidKinds := [.data, .data, .data, .data, .sentinel, .sentinel, .pinned], laidTests := true, laidLooks := .later }
def HonoursGapsCardSaid : Prop := Claim7.holds Tryz.pinned (.plain (OpenSpec.ofChange honoursGapsSpec)) honoursGapsCard

/-- THE TIED CARD OF 'sennetlaw05.HonoursMemory'. -/
def honoursMemoryCard : Claim7 := { stood := { row := honoursMemoryRow, standIns := [], harness := (true, "3a186af1b2027ba33b2885bf5840cdc6fead5f27ca1ba81e124aea93eac250d8"), looks := true }, kinds := [], alts := [], laidByText := true, laidKinds := [.data, .data, .data, .data, .sentinel, .sentinel, .pinned], laidTests := true, laidLooks := .later }
def HonoursMemoryCardSaid : Prop := Claim7.holds Tryz.pinned (.plain (OpenSpec.ofChange honoursMemorySpec)) honoursMemoryCard

/-- THE TIED CARD OF 'sennetlaw05.HonoursDiffer'. -/
def honoursDifferCard : Claim7 := { stood := { row := honoursDifferRow, standIns := [], harness := (true, "3a186af1b2027ba33b2885bf5840cdc6fead5f27ca1ba81e124aea93eac250d8"), looks := true }, kinds := [], alts := [], laidByText := true, laidKinds := [.data, .data, .data, .data, .sentinel, .sentinel, .pinned], laidTests := true, laidLooks := .later }
def HonoursDifferCardSaid : Prop := Claim7.holds Tryz.pinned (.plain (OpenSpec.ofChange honoursDifferSpec)) honoursDifferCard

/-- THE TIED CARD OF 'sennetlaw05.HonoursWitness'. -/
def honoursWitnessCard : Claim7 := { stood := { row := honoursWitnessRow, standIns := [], harness := (true, "3a186af1b2027ba33b2885bf5840cdc6fead5f27ca1ba81e124aea93eac250d8"), looks := true }, kinds := [], alts := [], laidByText := true, laidKinds := [.data, .data, .data, .data, .sentinel, .sentinel, .pinned], laidTests := true, laidLooks := .later }
def HonoursWitnessCardSaid : Prop := Claim7.holds Tryz.pinned (.plain (OpenSpec.ofChange honoursWitnessSpec)) honoursWitnessCard

/-- THE TIED CARD OF 'sennetlaw05.HonoursLeave'. -/
def honoursLeaveCard : Claim7 := { stood := { row := honoursLeaveRow, standIns := [], harness := (true, "3a186af1b2027ba33b2885bf5840cdc6fead5f27ca1ba81e124aea93eac250d8"), looks := true }, kinds := [], alts := [], laidByText := true, laidKinds := [.data, .data, .data, .data, .sentinel, .sentinel, .pinned], laidTests := true, laidLooks := .later }
def HonoursLeaveCardSaid : Prop := Claim7.holds Tryz.pinned (.plain (OpenSpec.ofChange honoursLeaveSpec)) honoursLeaveCard

/-- THE SECOND FORM's CARD OF 'sennetlaw05.HonoursAt'. -/
def honoursAtUptoCard : Claim7 := { stood := { row := honoursAtUptoRow, standIns := [], harness := (true, "3a186af1b2027ba33b2885bf5840cdc6fead5f27ca1ba81e124aea93eac250d8"), looks := true }, kinds := [], alts := [], laidByText := true, laidKinds := [.data, .data, .data, .data, .sentinel, .sentinel, .pinned], laidTests := true, laidLooks := .later }
def HonoursAtUptoCardSaid : Prop := Claim7.holds Tryz.pinned (.plain (OpenSpec.upto honoursAtSpec)) honoursAtUptoCard

/-- THE SECOND FORM's CARD OF 'sennetlaw05.HonoursNext'. -/
def honoursNextUptoCard : Claim7 := { stood := { row := honoursNextUptoRow, standIns := [], harness := (true, "3a186af1b2027ba33b2885bf5840cdc6fead5f27ca1ba81e124aea93eac250d8"), looks := true }, kinds := [], alts := [], laidByText := true, laidKinds := [.data, .data, .data, .data, .sentinel, .sentinel, .pinned], laidTests := true, laidLooks := .later }
def HonoursNextUptoCardSaid : Prop := Claim7.holds Tryz.pinned (.plain (OpenSpec.upto honoursNextSpec)) honoursNextUptoCard

/-- THE SECOND FORM's CARD OF 'sennetlaw05.HonoursIdle'. -/
def honoursIdleUptoCard : Claim7 := { stood := { row := honoursIdleUptoRow, standIns := [], harness := (true, "3a186af1b2027ba33b2885bf5840cdc6fead5f27ca1ba81e124aea93eac250d8"), looks := true }, kinds := [], alts := [], laidByText := true, laidKinds := [.data, .data, .data, .data, .sentinel, .sentinel, .pinned], laidTests := true, laidLooks := .later }
def HonoursIdleUptoCardSaid : Prop := Claim7.holds Tryz.pinned (.plain (OpenSpec.upto honoursIdleSpec)) honoursIdleUptoCard

/-- THE SECOND FORM's CARD OF 'sennetlaw05.HonoursGuns'. -/
def honoursGunsUptoCard : Claim7 := { stood := { row := honoursGunsUptoRow, standIns := [], harness := (true, "3a186af1b2027ba33b2885bf5840cdc6fead5f27ca1ba81e124aea93eac250d8"), looks := true }, kinds := [], alts := [], laidByText := true, laidKinds := [.data, .data, .data, .data, .sentinel, .sentinel, .pinned], laidTests := true, laidLooks := .later }
def HonoursGunsUptoCardSaid : Prop := Claim7.holds Tryz.pinned (.plain (OpenSpec.upto honoursGunsSpec)) honoursGunsUptoCard

/-- THE SECOND FORM's CARD OF 'sennetlaw05.HonoursWrites'. -/
def honoursWritesUptoCard : Claim7 := { stood := { row := honoursWritesUptoRow, standIns := [], harness := (true, "3a186af1b2027ba33b2885bf5840cdc6fead5f27ca1ba81e124aea93eac250d8"), looks := true }, kinds := [], alts := [], laidByText := true, laidKinds := [.data, .data, .data, .data, .sentinel, .sentinel, .pinned], laidTests := true, laidLooks := .later }
def HonoursWritesUptoCardSaid : Prop := Claim7.holds Tryz.pinned (.plain (OpenSpec.upto honoursWritesSpec)) honoursWritesUptoCard

/-- THE SECOND FORM's CARD OF 'sennetlaw05.HonoursEnters'. -/
def honoursEntersUptoCard : Claim7 := { stood := { row := honoursEntersUptoRow, standIns := [], harness := (true, "3a186af1b2027ba33b2885bf5840cdc6fead5f27ca1ba81e124aea93eac250d8"), looks := true }, kinds := [], alts := [], laidByText := true, laidKinds := [.data, .data, .data, .data, .sentinel, .sentinel, .pinned], laidTests := true, laidLooks := .later }
def HonoursEntersUptoCardSaid : Prop := Claim7.holds Tryz.pinned (.plain (OpenSpec.upto honoursEntersSpec)) honoursEntersUptoCard

/-- THE SECOND FORM's CARD OF 'sennetlaw05.HonoursZones'. -/
def honoursZonesUptoCard : Claim7 := { stood := { row := honoursZonesUptoRow, standIns := [], harness := (true, "3a186af1b2027ba33b2885bf5840cdc6fead5f27ca1ba81e124aea93eac250d8"), looks := true }, kinds := [], alts := [], laidByText := true, laidKinds := [.data, .data, .data, .data, .sentinel, .sentinel, .pinned], laidTests := true, laidLooks := .later }
def HonoursZonesUptoCardSaid : Prop := Claim7.holds Tryz.pinned (.plain (OpenSpec.upto honoursZonesSpec)) honoursZonesUptoCard

/-- THE SECOND FORM's CARD OF 'sennetlaw05.HonoursChecks'. -/
def honoursChecksUptoCard : Claim7 := { stood := { row := honoursChecksUptoRow, standIns := [], harness := (true, "3a186af1b2027ba33b2885bf5840cdc6fead5f27ca1ba81e124aea93eac250d8"), looks := true }, kinds := [], alts := [], laidByText := true, laidKinds := [.data, .data, .data, .data, .sentinel, .sentinel, .pinned], laidTests := true, laidLooks := .later }
def HonoursChecksUptoCardSaid : Prop := Claim7.holds Tryz.pinned (.plain (OpenSpec.upto honoursChecksSpec)) honoursChecksUptoCard

/-- THE SECOND FORM's CARD OF 'sennetlaw05.HonoursRanks'. -/
def honoursRanksUptoCard : Claim7 := { stood := { row := honoursRanksUptoRow, standIns := [], harness := (true, "3a186af1b2027ba33b2885bf5840cdc6fead5f27ca1ba81e124aea93eac250d8"), looks := true }, kinds := [], alts := [], laidByText := true, laidKinds := [.data, .data, .data, .data, .sentinel, .sentinel, .pinned], laidTests := true, laidLooks := .later }
def HonoursRanksUptoCardSaid : Prop := Claim7.holds Tryz.pinned (.plain (OpenSpec.upto honoursRanksSpec)) honoursRanksUptoCard

/-- THE SECOND FORM's CARD OF 'sennetlaw05.HonoursTimes'. -/
def honoursTimesUptoCard : Claim7 := { stood := { row := honoursTimesUptoRow, standIns := [], harness := (true, "3a186af1b2027ba33b2885bf5840cdc6fead5f27ca1ba81e124aea93eac250d8"), looks := true }, kinds := [], alts := [], laidByText := true, laidKinds := [.data, .data, .data, .data, .sentinel, .sentinel, .pinned], laidTests := true, laidLooks := .later }
def HonoursTimesUptoCardSaid : Prop := Claim7.holds Tryz.pinned (.plain (OpenSpec.upto honoursTimesSpec)) honoursTimesUptoCard

/-- THE SECOND FORM's CARD OF 'sennetlaw05.HonoursLines'. -/
def honoursLinesUptoCard : Claim7 := { stood := { row := honoursLinesUptoRow, standIns := [], harness := (true, "3a186af1b2027ba33b2885bf5840cdc6fead5f27ca1ba81e124aea93eac250d8"), looks := true }, kinds := [], alts := [], laidByText := true, laidKinds := [.data, .data, .data, .data, .sentinel, .sentinel, .pinned], laidTests := true, laidLooks := .later }
def HonoursLinesUptoCardSaid : Prop := Claim7.holds Tryz.pinned (.plain (OpenSpec.upto honoursLinesSpec)) honoursLinesUptoCard

/-- THE SECOND FORM's CARD OF 'sennetlaw05.HonoursMinutes'. -/
def honoursMinutesUptoCard : Claim7 := { stood := { row := honoursMinutesUptoRow, standIns := [], harness := (true, "3a186af1b2027ba33b2885bf5840cdc6fead5f27ca1ba81e124aea93eac250d8"), looks := true }, kinds := [], alts := [], laidByText := true, laidKinds := [.data, .data, .data, .data, .sentinel, .sentinel, .pinned], laidTests := true, laidLooks := .later }
def HonoursMinutesUptoCardSaid : Prop := Claim7.holds Tryz.pinned (.plain (OpenSpec.upto honoursMinutesSpec)) honoursMinutesUptoCard

/-- THE SECOND FORM's CARD OF 'sennetlaw05.HonoursBattery'. -/
def honoursBatteryUptoCard : Claim7 := { stood := { row := honoursBatteryUptoRow, standIns := [], harness := (true, "3a186af1b2027ba33b2885bf5840cdc6fead5f27ca1ba81e124aea93eac250d8"), looks := true }, kinds := [], alts := [], laidByText := true, laidKinds := [.data, .data, .data, .data, .sentinel, .sentinel, .pinned], laidTests := true, laidLooks := .later }
def HonoursBatteryUptoCardSaid : Prop := Claim7.holds Tryz.pinned (.plain (OpenSpec.upto honoursBatterySpec)) honoursBatteryUptoCard

/-- THE SECOND FORM's CARD OF 'sennetlaw05.HonoursFirst'. -/
def honoursFirstUptoCard : Claim7 := { stood := { row := honoursFirstUptoRow, standIns := [], harness := (true, "3a186af1b2027ba33b2885bf5840cdc6fead5f27ca1ba81e124aea93eac250d8"), looks := true }, kinds := [], alts := [], laidByText := true, laidKinds := [.data, .data, .data, .data, .sentinel, .sentinel, .pinned], laidTests := true, laidLooks := .later }
def HonoursFirstUptoCardSaid : Prop := Claim7.holds Tryz.pinned (.plain (OpenSpec.upto honoursFirstSpec)) honoursFirstUptoCard

/-- THE SECOND FORM's CARD OF 'sennetlaw05.HonoursTunes'. -/
def honoursTunesUptoCard : Claim7 := { stood := { row := honoursTunesUptoRow, standIns := [], harness := (true, "3a186af1b2027ba33b2885bf5840cdc6fead5f27ca1ba81e124aea93eac250d8"), looks := true }, kinds := [], alts := [], laidByText := true, laidKinds := [.data, .data, .data, .data, .sentinel, .sentinel, .pinned], laidTests := true, laidLooks := .later }
def HonoursTunesUptoCardSaid : Prop := Claim7.holds Tryz.pinned (.plain (OpenSpec.upto honoursTunesSpec)) honoursTunesUptoCard

/-- THE SECOND FORM's CARD OF 'sennetlaw05.HonoursTurns'. -/
def honoursTurnsUptoCard : Claim7 := { stood := { row := honoursTurnsUptoRow, standIns := [], harness := (true, "3a186af1b2027ba33b2885bf5840cdc6fead5f27ca1ba81e124aea93eac250d8"), looks := true }, kinds := [], alts := [], laidByText := true, laidKinds := [.data, .data, .data, .data, .sentinel, .sentinel, .pinned], laidTests := true, laidLooks := .later }
def HonoursTurnsUptoCardSaid : Prop := Claim7.holds Tryz.pinned (.plain (OpenSpec.upto honoursTurnsSpec)) honoursTurnsUptoCard

/-- THE SECOND FORM's CARD OF 'sennetlaw05.HonoursTimesSpent'. -/
def honoursTimesSpentUptoCard : Claim7 := { stood := { row := honoursTimesSpentUptoRow, standIns := [], harness := (true, "3a186af1b2027ba33b2885bf5840cdc6fead5f27ca1ba81e124aea93eac250d8"), looks := true }, kinds := [], alts := [], laidByText := true, laidKinds := [.data, .data, .data, .data, .sentinel, .sentinel, .pinned], laidTests := true, laidLooks := .later }
def HonoursTimesSpentUptoCardSaid : Prop := Claim7.holds Tryz.pinned (.plain (OpenSpec.upto honoursTimesSpentSpec)) honoursTimesSpentUptoCard

/-- THE SECOND FORM's CARD OF 'sennetlaw05.HonoursGaps'. -/
def honoursGapsUptoCard : Claim7 := { stood := { row := honoursGapsUptoRow, standIns := [], harness := (true, "3a186af1b2027ba33b2885bf5840cdc6fead5f27ca1ba81e124aea93eac250d8"), looks := true }, kinds := [], alts := [], laidByText := true, laidKinds := [.data, .data, .data, .data, .sentinel, .sentinel, .pinned], laidTests := true, laidLooks := .later }
def HonoursGapsUptoCardSaid : Prop := Claim7.holds Tryz.pinned (.plain (OpenSpec.upto honoursGapsSpec)) honoursGapsUptoCard

/-- THE SECOND FORM's CARD OF 'sennetlaw05.HonoursMemory'. -/
def honoursMemoryUptoCard : Claim7 := { stood := { row := honoursMemoryUptoRow, standIns := [], harness := (true, "3a186af1b2027ba33b2885bf5840cdc6fead5f27ca1ba81e124aea93eac250d8"), looks := true }, kinds := [], alts := [], laidByText := true, laidKinds := [.data, .data, .data, .data, .sentinel, .sentinel, .pinned], laidTests := true, laidLooks := .later }
def HonoursMemoryUptoCardSaid : Prop := Claim7.holds Tryz.pinned (.plain (OpenSpec.upto honoursMemorySpec)) honoursMemoryUptoCard

/-- THE SECOND FORM's CARD OF 'sennetlaw05.HonoursDiffer'. -/
def honoursDifferUptoCard : Claim7 := { stood := { row := honoursDifferUptoRow, standIns := [], harness := (true, "3a186af1b2027ba33b2885bf5840cdc6fead5f27ca1ba81e124aea93eac250d8"), looks := true }, kinds := [], alts := [], laidByText := true, laidKinds := [.data, .data, .data, .data, .sentinel, .sentinel, .pinned], laidTests := true, laidLooks := .later }
def HonoursDifferUptoCardSaid : Prop := Claim7.holds Tryz.pinned (.plain (OpenSpec.upto honoursDifferSpec)) honoursDifferUptoCard

/-- THE SECOND FORM's CARD OF 'sennetlaw05.HonoursWitness'. -/
def honoursWitnessUptoCard : Claim7 := { stood := { row := honoursWitnessUptoRow, standIns := [], harness := (true, "3a186af1b2027ba33b2885bf5840cdc6fead5f27ca1ba81e124aea93eac250d8"), looks := true }, kinds := [], alts := [], laidByText := true, laidKinds := [.data, .data, .data, .data, .sentinel, .sentinel, .pinned], laidTests := true, laidLooks := .later }
def HonoursWitnessUptoCardSaid : Prop := Claim7.holds Tryz.pinned (.plain (OpenSpec.upto honoursWitnessSpec)) honoursWitnessUptoCard

/-- THE SECOND FORM's CARD OF 'sennetlaw05.HonoursLeave'. -/
def honoursLeaveUptoCard : Claim7 := { stood := { row := honoursLeaveUptoRow, standIns := [], harness := (true, "3a186af1b2027ba33b2885bf5840cdc6fead5f27ca1ba81e124aea93eac250d8"), looks := true }, kinds := [], alts := [], laidByText := true, laidKinds := [.data, .data, .data, .data, .sentinel, .sentinel, .pinned], laidTests := true, laidLooks := .later }
def HonoursLeaveUptoCardSaid : Prop := Claim7.holds Tryz.pinned (.plain (OpenSpec.upto honoursLeaveSpec)) honoursLeaveUptoCard
end Rows
end Go.Proofs.YtdpfgjljehajbaaGreatDoor
