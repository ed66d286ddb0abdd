/- Closed facts of one row. -/
import Derived.Test.YtljjkomdibkjpaaGreatDoorJF
set_option linter.unusedVariables false
set_option linter.unusedSimpArgs false
/-! CF4 -/
set_option maxRecDepth 100000
set_option linter.unusedVariables false
namespace Go.Proofs.YtljjkomdibkjpaaGreatDoor
open Go Go.ChangeShapes Go.WideShapes Go.ChangeAt Go.RowKit
theorem cf4_0 : (Rows.rulesPrintRow.wf (OpenSpec.ofChange Rows.rulesPrintSpec)) = true := by kernel_rfl
theorem cf4_3 : (Tryz.f4.params.all (Tryz.prog.readableRec ·)) = true := by kernel_rfl
theorem cf4_4 : (namedTie Tryz.prog Rows.rulesPrintRow.named Rows.rulesPrintSpec.vars) = true := by kernel_rfl
theorem cf4_5 : ((Rows.rulesPrintRow.stops == [])) = true := by kernel_rfl
theorem cf4_7 : ((Rows.rulesPrintRow.knobs == [])) = true := by kernel_rfl
theorem cf4_9 : ((Rows.rulesPrintRow.inPlace == Tryz.prog.inPlace 4)) = true := by kernel_rfl
theorem cf4_10 : ((Rows.rulesPrintRow.unfollowed == Tryz.prog.unfollowed 4)) = true := by kernel_rfl
theorem cf4_11 : ((Rows.rulesPrintRow.recurses == Tryz.prog.recurses 4)) = true := by kernel_rfl
theorem cf4_12 : ((Rows.rulesPrintRow.named == Tryz.prog.varsNamed 4)) = true := by kernel_rfl
theorem cf4_13 : ((Rows.rulesPrintRow.maps == (Tryz.f4.params.toList ++ Rows.rulesPrintSpec.plain.varTypes Tryz.prog).any (Tryz.prog.mapsRec ·))) = true := by kernel_rfl
theorem cf4_14 : ((Rows.rulesPrintRow.ifaces == (Tryz.f4.params.toList ++ Rows.rulesPrintSpec.plain.varTypes Tryz.prog).any (Tryz.prog.ifacesRec ·))) = true := by kernel_rfl
theorem cf4_15 : ((Rows.rulesPrintRow.mapsOut == Tryz.prog.mapsAmong Tryz.f4.resultTypes.toList)) = true := by kernel_rfl
theorem cf4_16 : ((Rows.rulesPrintRow.loops == (Tryz.f4.params.toList ++ Rows.rulesPrintSpec.plain.varTypes Tryz.prog).any (Tryz.prog.loopsFrom ·))) = true := by kernel_rfl
theorem cf4_17 : ((Rows.rulesPrintRow.wideKeys == (Tryz.f4.params.toList ++ Rows.rulesPrintSpec.plain.varTypes Tryz.prog ++ Tryz.f4.resultTypes.toList).any (Tryz.prog.wideKeysFrom ·))) = true := by kernel_rfl
theorem cf4_18 : (Rows.rulesPrintSpec.vars.all (Tryz.prog.varReadable ·)) = true := by kernel_rfl
theorem cf4_19 : (Tryz.f4.resultTypes.all (fun t => Tryz.prog.readableRec t && decide (t < Tryz.prog.types.size))) = true := by kernel_rfl
theorem cf4_20 : ((Rows.rulesPrintRow.ifacesOut == Tryz.f4.resultTypes.toList.any (Tryz.prog.ifacesRec ·))) = true := by kernel_rfl
theorem cf4_21 : ((Rows.rulesPrintRow.loopsOut == Tryz.f4.resultTypes.toList.any (Tryz.prog.loopsFrom ·))) = true := by kernel_rfl
theorem cf4_23 : (Rows.rulesPrintRow.shortTexts.isNone) = true := by kernel_rfl
theorem cf4_28 : ((Rows.rulesPrintRow.kinds == (if Rows.rulesPrintRow.domain.isEmpty then [] else Tryz.f4.params.toList.map fun t => match Tryz.prog.underlying t with | some (.int k) => some k | _ => none))) = true := by kernel_rfl
theorem cf4_29 : ((Rows.rulesPrintRow.pinned == Rows.rulesPrintRow.pinnedBy)) = true := by kernel_rfl
theorem cf4_30 : ((Rows.rulesPrintRow.veiled == (Tryz.f4.params.toList ++ Rows.rulesPrintSpec.plain.varTypes Tryz.prog ++ Tryz.f4.resultTypes.toList).any (Tryz.prog.veiledRec ·))) = true := by kernel_rfl
theorem cf4_31 : (Rows.rulesPrintRow.veiledFits Tryz.prog Tryz.f4.params.toList (Tryz.f4.params.toList ++ Rows.rulesPrintSpec.plain.varTypes Tryz.prog ++ Tryz.f4.resultTypes.toList)) = true := by kernel_rfl
theorem facts4 : joinedFacts Tryz.prog 4 Tryz.f4 Rows.rulesPrintSpec Rows.rulesPrintRow = true := (band (band (band (band (band (band (band (band (band (band (band (band (band (band (band (band (band (band (band (band (band (band (band (band (band (band (band (band (band (band (band cf4_0 pf_laidOut) pf_mapsRowed) cf4_3) cf4_4) cf4_5) pf_stops) cf4_7) pf_stopKnobs) cf4_9) cf4_10) cf4_11) cf4_12) cf4_13) cf4_14) cf4_15) cf4_16) cf4_17) cf4_18) cf4_19) cf4_20) cf4_21) pf_plainKeys) cf4_23) pf_stopsHeard) pf_mayEnter) pf_lifts) pf_make) cf4_28) cf4_29) cf4_30) cf4_31)
theorem named4 : Tryz.pinned.checked.prog.funcNamed Rows.rulesPrintRow.func = some 4 := by kernel_rfl
theorem inst4 : Tryz.f4.isInstance Tryz.pinned.checked.prog Rows.rulesPrintRow.origin Rows.rulesPrintRow.targs := of_decide_eq_true (by kernel_rfl)
theorem wrap4 : Tryz.f4.isWrapper Tryz.pinned.checked.prog Rows.rulesPrintRow.wrapper Rows.rulesPrintRow.mainSum := by unfold Func.isWrapper; first | (rw [if_pos (by decide +kernel)]; kernel_rfl) | (rw [if_neg (by decide +kernel)]; exact ⟨rfl, rfl⟩)
theorem wfText4 : Rows.rulesPrintRow.wfByText (OpenSpec.ofChange Rows.rulesPrintSpec) = true := by kernel_rfl
theorem goes4 : false = Rows.rulesPrintRow.goesBy Tryz.pinned.checked.prog := by kernel_rfl
end Go.Proofs.YtljjkomdibkjpaaGreatDoor
