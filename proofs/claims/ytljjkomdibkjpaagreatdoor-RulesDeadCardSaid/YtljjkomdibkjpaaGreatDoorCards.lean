/-
  DERIVED. GIVEN WITH THE SEED: THE CARDS: each row of YtljjkomdibkjpaaGreatDoorRows.lean that lists a variable, with what it lists TIED to the program's text (the seventh form; the later family's looks); each row that meets fmt, with fmt's text TOLD by the authors' own Lean function (tested against real Go, not proved from fmt's source: count such statements apart). THE CARD IS WHAT COUNTS. Prove the row's statement (the work); the ties are given (YtljjkomdibkjpaaGreatDoorTie.lean); close each card by the builder's one call (the guide's Derived/Test/ToyasCard.lean, 'card_holds'). Laid BY PROGRAM, IN A SANDBOX (cutbox-door.mjs). By AI agents, Wed Nov 11 2026. No macro, syntax, notation, axiom, sorry.
-/
import Derived.Test.YtljjkomdibkjpaaGreatDoorRows
import GoSem.ClaimSeven
namespace Go.Proofs.YtljjkomdibkjpaaGreatDoor
namespace Rows

/-- THE TIED CARD OF 'sennetlaw02.RulesParse'. -/
def rulesParseCard : Claim7 := { stood := { row := rulesParseRow, standIns := [], harness := (true, "8a39989b16c96edd8862227a28a39fd81b9a8129ba56d5c5d6d2d1b329311cf0"), looks := true }, kinds := [], alts := [], laidByText := true, laidKinds := [.data, .data, .data, .data, .sentinel, .sentinel, .pinned], laidTests := true, laidLooks := .later }
def RulesParseCardSaid : Prop := Claim7.holds Tryz.pinned (.plain (OpenSpec.ofChange rulesParseSpec)) rulesParseCard

/-- THE TIED CARD OF 'sennetlaw02.RulesPrint'. -/
def rulesPrintCard : Claim7 := { stood := { row := rulesPrintRow, standIns := [], harness := (true, "8a39989b16c96edd8862227a28a39fd81b9a8129ba56d5c5d6d2d1b329311cf0"), looks := true }, kinds := [], alts := [], laidByText := true, laidKinds := [.data, .data, .data, .data, .sentinel, .sentinel, .pinned], laidTests := true, laidLooks := .later }
def RulesPrintCardSaid : Prop := Claim7.holds Tryz.pinned (.plain (OpenSpec.ofChange rulesPrintSpec)) rulesPrintCard

/-- THE TIED CARD OF 'sennetlaw02.RulesSource'. -/
def rulesSourceCard : Claim7 := { stood := { row := rulesSourceRow, standIns := [], harness := (true, "8a39989b16c96edd8862227a28a39fd81b9a8129ba56d5c5d6d2d1b329311cf0"), looks := true }, kinds := [], alts := [], laidByText := true, laidKinds := [.data, .data, .data, .data, .sentinel, .sentinel, .pinned], laidTests := true, laidLooks := .later }
def RulesSourceCardSaid : Prop := Claim7.holds Tryz.pinned (.plain (OpenSpec.ofChange rulesSourceSpec)) rulesSourceCard

/-- THE TIED CARD OF 'sennetlaw02.RulesSymmetric'. -/
def rulesSymmetricCard : Claim7 := { stood := { row := rulesSymmetricRow, standIns := [], harness := (true, "8a39989b16c96edd8862227a28a39fd81b9a8129ba56d5c5d6d2d1b329311cf0"), looks := true }, kinds := [], alts := [], laidByText := true, laidKinds := [.data, .data, .data, .data, .sentinel, .sentinel, .pinned], laidTests := true, laidLooks := .later }
def RulesSymmetricCardSaid : Prop := Claim7.holds Tryz.pinned (.plain (OpenSpec.ofChange rulesSymmetricSpec)) rulesSymmetricCard

/-- THE TIED CARD OF 'sennetlaw02.RulesOrdinals'. -/
def rulesOrdinalsCard : Claim7 := { stood := { row := rulesOrdinalsRow, standIns := [], harness := (true, "8a39989b16c96edd8862227a28a39fd81b9a8129ba56d5c5d6d2d1b329311cf0"), looks := true }, kinds := [], alts := [], laidByText := true, laidKinds := [.data, .data, .data, .data, .sentinel, .sentinel, .pinned], laidTests := true, laidLooks := .later }
def RulesOrdinalsCardSaid : Prop := Claim7.holds Tryz.pinned (.plain (OpenSpec.ofChange rulesOrdinalsSpec)) rulesOrdinalsCard

/-- THE TIED CARD OF 'sennetlaw02.RulesDecides'. -/
def rulesDecidesCard : Claim7 := { stood := { row := rulesDecidesRow, standIns := [], harness := (true, "8a39989b16c96edd8862227a28a39fd81b9a8129ba56d5c5d6d2d1b329311cf0"), looks := true }, kinds := [], alts := [], laidByText := true, laidKinds := [.data, .data, .data, .data, .sentinel, .sentinel, .pinned], laidTests := true, laidLooks := .later }
def RulesDecidesCardSaid : Prop := Claim7.holds Tryz.pinned (.plain (OpenSpec.ofChange rulesDecidesSpec)) rulesDecidesCard

/-- THE TIED CARD OF 'sennetlaw02.RulesCircles'. -/
def rulesCirclesCard : Claim7 := { stood := { row := rulesCirclesRow, standIns := [], harness := (true, "8a39989b16c96edd8862227a28a39fd81b9a8129ba56d5c5d6d2d1b329311cf0"), looks := true }, kinds := [], alts := [], laidByText := true, laidKinds := [.data, .data, .data, .data, .sentinel, .sentinel, .pinned], laidTests := true, laidLooks := .later }
def RulesCirclesCardSaid : Prop := Claim7.holds Tryz.pinned (.plain (OpenSpec.ofChange rulesCirclesSpec)) rulesCirclesCard

/-- THE TIED CARD OF 'sennetlaw02.RulesCircled'. -/
def rulesCircledCard : Claim7 := { stood := { row := rulesCircledRow, standIns := [], harness := (true, "8a39989b16c96edd8862227a28a39fd81b9a8129ba56d5c5d6d2d1b329311cf0"), looks := true }, kinds := [], alts := [], laidByText := true, laidKinds := [.data, .data, .data, .data, .sentinel, .sentinel, .pinned], laidTests := true, laidLooks := .later }
def RulesCircledCardSaid : Prop := Claim7.holds Tryz.pinned (.plain (OpenSpec.ofChange rulesCircledSpec)) rulesCircledCard

/-- THE TIED CARD OF 'sennetlaw02.RulesClashes'. -/
def rulesClashesCard : Claim7 := { stood := { row := rulesClashesRow, standIns := [], harness := (true, "8a39989b16c96edd8862227a28a39fd81b9a8129ba56d5c5d6d2d1b329311cf0"), looks := true }, kinds := [], alts := [], laidByText := true, laidKinds := [.data, .data, .data, .data, .sentinel, .sentinel, .pinned], laidTests := true, laidLooks := .later }
def RulesClashesCardSaid : Prop := Claim7.holds Tryz.pinned (.plain (OpenSpec.ofChange rulesClashesSpec)) rulesClashesCard

/-- THE TIED CARD OF 'sennetlaw02.RulesGaps'. -/
def rulesGapsCard : Claim7 := { stood := { row := rulesGapsRow, standIns := [], harness := (true, "8a39989b16c96edd8862227a28a39fd81b9a8129ba56d5c5d6d2d1b329311cf0"), looks := true }, kinds := [], alts := [], laidByText := true, laidKinds := [.data, .data, .data, .data, .sentinel, .sentinel, .pinned], laidTests := true, laidLooks := .later }
def RulesGapsCardSaid : Prop := Claim7.holds Tryz.pinned (.plain (OpenSpec.ofChange rulesGapsSpec)) rulesGapsCard

/-- THE TIED CARD OF 'sennetlaw02.RulesSame'. -/
def rulesSameCard : Claim7 := { stood := { row := rulesSameRow, standIns := [], harness := (true, "8a39989b16c96edd8862227a28a39fd81b9a8129ba56d5c5d6d2d1b329311cf0"), looks := true }, kinds := [], alts := [], laidByText := true, laidKinds := [.data, .data, .data, .data, .sentinel, .sentinel, .pinned], laidTests := true, laidLooks := .later }
def RulesSameCardSaid : Prop := Claim7.holds Tryz.pinned (.plain (OpenSpec.ofChange rulesSameSpec)) rulesSameCard

/-- THE TIED CARD OF 'sennetlaw02.RulesWitness'. -/
def rulesWitnessCard : Claim7 := { stood := { row := rulesWitnessRow, standIns := [], harness := (true, "8a39989b16c96edd8862227a28a39fd81b9a8129ba56d5c5d6d2d1b329311cf0"), looks := true }, kinds := [], alts := [], laidByText := true, laidKinds := [.data, .data, .data, .data, .sentinel, .sentinel, .pinned], laidTests := true, laidLooks := .later }
def RulesWitnessCardSaid : Prop := Claim7.holds Tryz.pinned (.plain (OpenSpec.ofChange rulesWitnessSpec)) rulesWitnessCard

/-- THE TIED CARD OF 'sennetlaw02.RulesDead'. -/
def rulesDeadCard : Claim7 := { stood := { row := rulesDeadRow, standIns := [], harness := (true, "8a39989b16c96edd8862227a28a39fd81b9a8129ba56d5c5d6d2d1b329311cf0"), looks := true }, kinds := [], alts := [], laidByText := true, laidKinds := [.data, .data, .data, .data, .sentinel, .sentinel, .pinned], laidTests := true, laidLooks := .later }
def RulesDeadCardSaid : Prop := Claim7.holds Tryz.pinned (.plain (OpenSpec.ofChange rulesDeadSpec)) rulesDeadCard

/-- THE TIED CARD OF 'sennetlaw02.RulesPruned'. -/
def rulesPrunedCard : Claim7 := { stood := { row := rulesPrunedRow, standIns := [], harness := (true, "8a39989b16c96edd8862227a28a39fd81b9a8129ba56d5c5d6d2d1b329311cf0"), looks := true }, kinds := [], alts := [], laidByText := true, laidKinds := [.data, .data, .data, .data, .sentinel, .sentinel, .pinned], laidTests := true, laidLooks := .later }
def RulesPrunedCardSaid : Prop := Claim7.holds Tryz.pinned (.plain (OpenSpec.ofChange rulesPrunedSpec)) rulesPrunedCard

/-- THE TIED CARD OF 'sennetlaw02.RulesChanges'. -/
def rulesChangesCard : Claim7 := { stood := { row := rulesChangesRow, standIns := [], harness := (true, "8a39989b16c96edd8862227a28a39fd81b9a8129ba56d5c5d6d2d1b329311cf0"), looks := true }, kinds := [], alts := [], laidByText := true, laidKinds := [.data, .data, .data, .data, .sentinel, .sentinel, .pinned], laidTests := true, laidLooks := .later }
def RulesChangesCardSaid : Prop := Claim7.holds Tryz.pinned (.plain (OpenSpec.ofChange rulesChangesSpec)) rulesChangesCard

/-- THE TIED CARD OF 'sennetlaw02.RulesMemory'. -/
def rulesMemoryCard : Claim7 := { stood := { row := rulesMemoryRow, standIns := [], harness := (true, "8a39989b16c96edd8862227a28a39fd81b9a8129ba56d5c5d6d2d1b329311cf0"), looks := true }, kinds := [], alts := [], laidByText := true, laidKinds := [.data, .data, .data, .data, .sentinel, .sentinel, .pinned], laidTests := true, laidLooks := .later }
def RulesMemoryCardSaid : Prop := Claim7.holds Tryz.pinned (.plain (OpenSpec.ofChange rulesMemorySpec)) rulesMemoryCard

/-- THE TIED CARD OF 'sennetlaw02.RulesUndone'. -/
def rulesUndoneCard : Claim7 := { stood := { row := rulesUndoneRow, standIns := [], harness := (true, "8a39989b16c96edd8862227a28a39fd81b9a8129ba56d5c5d6d2d1b329311cf0"), looks := true }, kinds := [], alts := [], laidByText := true, laidKinds := [.data, .data, .data, .data, .sentinel, .sentinel, .pinned], laidTests := true, laidLooks := .later }
def RulesUndoneCardSaid : Prop := Claim7.holds Tryz.pinned (.plain (OpenSpec.ofChange rulesUndoneSpec)) rulesUndoneCard

/-- THE SECOND FORM's CARD OF 'sennetlaw02.RulesParse'. -/
def rulesParseUptoCard : Claim7 := { stood := { row := rulesParseUptoRow, standIns := [], harness := (true, "8a39989b16c96edd8862227a28a39fd81b9a8129ba56d5c5d6d2d1b329311cf0"), looks := true }, kinds := [], alts := [], laidByText := true, laidKinds := [.data, .data, .data, .data, .sentinel, .sentinel, .pinned], laidTests := true, laidLooks := .later }
def RulesParseUptoCardSaid : Prop := Claim7.holds Tryz.pinned (.plain (OpenSpec.upto rulesParseSpec)) rulesParseUptoCard

/-- THE SECOND FORM's CARD OF 'sennetlaw02.RulesPrint'. -/
def rulesPrintUptoCard : Claim7 := { stood := { row := rulesPrintUptoRow, standIns := [], harness := (true, "8a39989b16c96edd8862227a28a39fd81b9a8129ba56d5c5d6d2d1b329311cf0"), looks := true }, kinds := [], alts := [], laidByText := true, laidKinds := [.data, .data, .data, .data, .sentinel, .sentinel, .pinned], laidTests := true, laidLooks := .later }
def RulesPrintUptoCardSaid : Prop := Claim7.holds Tryz.pinned (.plain (OpenSpec.upto rulesPrintSpec)) rulesPrintUptoCard

/-- THE SECOND FORM's CARD OF 'sennetlaw02.RulesSource'. -/
def rulesSourceUptoCard : Claim7 := { stood := { row := rulesSourceUptoRow, standIns := [], harness := (true, "8a39989b16c96edd8862227a28a39fd81b9a8129ba56d5c5d6d2d1b329311cf0"), looks := true }, kinds := [], alts := [], laidByText := true, laidKinds := [.data, .data, .data, .data, .sentinel, .sentinel, .pinned], laidTests := true, laidLooks := .later }
def RulesSourceUptoCardSaid : Prop := Claim7.holds Tryz.pinned (.plain (OpenSpec.upto rulesSourceSpec)) rulesSourceUptoCard

/-- THE SECOND FORM's CARD OF 'sennetlaw02.RulesSymmetric'. -/
def rulesSymmetricUptoCard : Claim7 := { stood := { row := rulesSymmetricUptoRow, standIns := [], harness := (true, "8a39989b16c96edd8862227a28a39fd81b9a8129ba56d5c5d6d2d1b329311cf0"), looks := true }, kinds := [], alts := [], laidByText := true, laidKinds := [.data, .data, .data, .data, .sentinel, .sentinel, .pinned], laidTests := true, laidLooks := .later }
def RulesSymmetricUptoCardSaid : Prop := Claim7.holds Tryz.pinned (.plain (OpenSpec.upto rulesSymmetricSpec)) rulesSymmetricUptoCard

/-- THE SECOND FORM's CARD OF 'sennetlaw02.RulesOrdinals'. -/
def rulesOrdinalsUptoCard : Claim7 := { stood := { row := rulesOrdinalsUptoRow, standIns := [], harness := (true, "8a39989b16c96edd8862227a28a39fd81b9a8129ba56d5c5d6d2d1b329311cf0"), looks := true }, kinds := [], alts := [], laidByText := true, laidKinds := [.data, .data, .data, .data, .sentinel, .sentinel, .pinned], laidTests := true, laidLooks := .later }
def RulesOrdinalsUptoCardSaid : Prop := Claim7.holds Tryz.pinned (.plain (OpenSpec.upto rulesOrdinalsSpec)) rulesOrdinalsUptoCard

/-- THE SECOND FORM's CARD OF 'sennetlaw02.RulesDecides'. -/
def rulesDecidesUptoCard : Claim7 := { stood := { row := rulesDecidesUptoRow, standIns := [], harness := (true, "8a39989b16c96edd8862227a28a39fd81b9a8129ba56d5c5d6d2d1b329311cf0"), looks := true }, kinds := [], alts := [], laidByText := true, laidKinds := [.data, .data, .data, .data, .sentinel, .sentinel, .pinned], laidTests := true, laidLooks := .later }
def RulesDecidesUptoCardSaid : Prop := Claim7.holds Tryz.pinned (.plain (OpenSpec.upto rulesDecidesSpec)) rulesDecidesUptoCard

/-- THE SECOND FORM's CARD OF 'sennetlaw02.RulesCircles'. -/
def rulesCirclesUptoCard : Claim7 := { stood := { row := rulesCirclesUptoRow, standIns := [], harness := (true, "8a39989b16c96edd8862227a28a39fd81b9a8129ba56d5c5d6d2d1b329311cf0"), looks := true }, kinds := [], alts := [], laidByText := true, laidKinds := [.data, .data, .data, .data, .sentinel, .sentinel, .pinned], laidTests := true, laidLooks := .later }
def RulesCirclesUptoCardSaid : Prop := Claim7.holds Tryz.pinned (.plain (OpenSpec.upto rulesCirclesSpec)) rulesCirclesUptoCard

/-- THE SECOND FORM's CARD OF 'sennetlaw02.RulesCircled'. -/
def rulesCircledUptoCard : Claim7 := { stood := { row := rulesCircledUptoRow, standIns := [], harness := (true, "8a39989b16c96edd8862227a28a39fd81b9a8129ba56d5c5d6d2d1b329311cf0"), looks := true }, kinds := [], alts := [], laidByText := true, laidKinds := [.data, .data, .data, .data, .sentinel, .sentinel, .pinned], laidTests := true, laidLooks := .later }
def RulesCircledUptoCardSaid : Prop := Claim7.holds Tryz.pinned (.plain (OpenSpec.upto rulesCircledSpec)) rulesCircledUptoCard

/-- THE SECOND FORM's CARD OF 'sennetlaw02.RulesClashes'. -/
def rulesClashesUptoCard : Claim7 := { stood := { row := rulesClashesUptoRow, standIns := [], harness := (true, "8a39989b16c96edd8862227a28a39fd81b9a8129ba56d5c5d6d2d1b329311cf0"), looks := true }, kinds := [], alts := [], laidByText := true, laidKinds := [.data, .data, .data, .data, .sentinel, .sentinel, .pinned], laidTests := true, laidLooks := .later }
def RulesClashesUptoCardSaid : Prop := Claim7.holds Tryz.pinned (.plain (OpenSpec.upto rulesClashesSpec)) rulesClashesUptoCard

/-- THE SECOND FORM's CARD OF 'sennetlaw02.RulesGaps'. -/
def rulesGapsUptoCard : Claim7 := { stood := { row := rulesGapsUptoRow, standIns := [], harness := (true, "8a39989b16c96edd8862227a28a39fd81b9a8129ba56d5c5d6d2d1b329311cf0"), looks := true }, kinds := [], alts := [], laidByText := true, laidKinds := [.data, .data, .data, .data, .sentinel, .sentinel, .pinned], laidTests := true, laidLooks := .later }
def RulesGapsUptoCardSaid : Prop := Claim7.holds Tryz.pinned (.plain (OpenSpec.upto rulesGapsSpec)) rulesGapsUptoCard

/-- THE SECOND FORM's CARD OF 'sennetlaw02.RulesSame'. -/
def rulesSameUptoCard : Claim7 := { stood := { row := rulesSameUptoRow, standIns := [], harness := (true, "8a39989b16c96edd8862227a28a39fd81b9a8129ba56d5c5d6d2d1b329311cf0"), looks := true }, kinds := [], alts := [], laidByText := true, laidKinds := [.data, .data, .data, .data, .sentinel, .sentinel, .pinned], laidTests := true, laidLooks := .later }
def RulesSameUptoCardSaid : Prop := Claim7.holds Tryz.pinned (.plain (OpenSpec.upto rulesSameSpec)) rulesSameUptoCard

/-- THE SECOND FORM's CARD OF 'sennetlaw02.RulesWitness'. -/
def rulesWitnessUptoCard : Claim7 := { stood := { row := rulesWitnessUptoRow, standIns := [], harness := (true, "8a39989b16c96edd8862227a28a39fd81b9a8129ba56d5c5d6d2d1b329311cf0"), looks := true }, kinds := [], alts := [], laidByText := true, laidKinds := [.data, .data, .data, .data, .sentinel, .sentinel, .pinned], laidTests := true, laidLooks := .later }
def RulesWitnessUptoCardSaid : Prop := Claim7.holds Tryz.pinned (.plain (OpenSpec.upto rulesWitnessSpec)) rulesWitnessUptoCard

/-- THE SECOND FORM's CARD OF 'sennetlaw02.RulesDead'. -/
def rulesDeadUptoCard : Claim7 := { stood := { row := rulesDeadUptoRow, standIns := [], harness := (true, "8a39989b16c96edd8862227a28a39fd81b9a8129ba56d5c5d6d2d1b329311cf0"), looks := true }, kinds := [], alts := [], laidByText := true, laidKinds := [.data, .data, .data, .data, .sentinel, .sentinel, .pinned], laidTests := true, laidLooks := .later }
def RulesDeadUptoCardSaid : Prop := Claim7.holds Tryz.pinned (.plain (OpenSpec.upto rulesDeadSpec)) rulesDeadUptoCard

/-- THE SECOND FORM's CARD OF 'sennetlaw02.RulesPruned'. -/
def rulesPrunedUptoCard : Claim7 := { stood := { row := rulesPrunedUptoRow, standIns := [], harness := (true, "8a39989b16c96edd8862227a28a39fd81b9a8129ba56d5c5d6d2d1b329311cf0"), looks := true }, kinds := [], alts := [], laidByText := true, laidKinds := [.data, .data, .data, .data, .sentinel, .sentinel, .pinned], laidTests := true, laidLooks := .later }
def RulesPrunedUptoCardSaid : Prop := Claim7.holds Tryz.pinned (.plain (OpenSpec.upto rulesPrunedSpec)) rulesPrunedUptoCard

/-- THE SECOND FORM's CARD OF 'sennetlaw02.RulesChanges'. -/
def rulesChangesUptoCard : Claim7 := { stood := { row := rulesChangesUptoRow, standIns := [], harness := (true, "8a39989b16c96edd8862227a28a39fd81b9a8129ba56d5c5d6d2d1b329311cf0"), looks := true }, kinds := [], alts := [], laidByText := true, laidKinds := [.data, .data, .data, .data, .sentinel, .sentinel, .pinned], laidTests := true, laidLooks := .later }
def RulesChangesUptoCardSaid : Prop := Claim7.holds Tryz.pinned (.plain (OpenSpec.upto rulesChangesSpec)) rulesChangesUptoCard

/-- THE SECOND FORM's CARD OF 'sennetlaw02.RulesMemory'. -/
def rulesMemoryUptoCard : Claim7 := { stood := { row := rulesMemoryUptoRow, standIns := [], harness := (true, "8a39989b16c96edd8862227a28a39fd81b9a8129ba56d5c5d6d2d1b329311cf0"), looks := true }, kinds := [], alts := [], laidByText := true, laidKinds := [.data, .data, .data, .data, .sentinel, .sentinel, .pinned], laidTests := true, laidLooks := .later }
def RulesMemoryUptoCardSaid : Prop := Claim7.holds Tryz.pinned (.plain (OpenSpec.upto rulesMemorySpec)) rulesMemoryUptoCard

/-- THE SECOND FORM's CARD OF 'sennetlaw02.RulesUndone'. -/
def rulesUndoneUptoCard : Claim7 := { stood := { row := rulesUndoneUptoRow, standIns := [], harness := (true, "8a39989b16c96edd8862227a28a39fd81b9a8129ba56d5c5d6d2d1b329311cf0"), looks := true }, kinds := [], alts := [], laidByText := true, laidKinds := [.data, .data, .data, .data, .sentinel, .sentinel, .pinned], laidTests := true, laidLooks := .later }
def RulesUndoneUptoCardSaid : Prop := Claim7.holds Tryz.pinned (.plain (OpenSpec.upto rulesUndoneSpec)) rulesUndoneUptoCard
end Rows
end Go.Proofs.YtljjkomdibkjpaaGreatDoor
