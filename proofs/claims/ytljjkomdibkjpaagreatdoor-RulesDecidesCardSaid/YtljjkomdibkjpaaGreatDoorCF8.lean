/- Closed facts of one row. -/
import Derived.Test.YtljjkomdibkjpaaGreatDoorJF
set_option linter.unusedVariables false
set_option linter.unusedSimpArgs false
/-! CF8 -/
set_option maxRecDepth 100000
set_option linter.unusedVariables false
namespace Go.Proofs.YtljjkomdibkjpaaGreatDoor
open Go Go.ChangeShapes Go.WideShapes Go.ChangeAt Go.RowKit
theorem cf8_0 : (Rows.rulesDecidesRow.wf (OpenSpec.ofChange Rows.rulesDecidesSpec)) = true := by kernel_rfl
theorem cf8_3 : (Tryz.f8.params.all (Tryz.prog.readableRec ·)) = true := by kernel_rfl
theorem cf8_4 : (namedTie Tryz.prog Rows.rulesDecidesRow.named Rows.rulesDecidesSpec.vars) = true := by kernel_rfl
theorem cf8_5 : ((Rows.rulesDecidesRow.stops == [])) = true := by kernel_rfl
theorem cf8_7 : ((Rows.rulesDecidesRow.knobs == [])) = true := by kernel_rfl
theorem cf8_9 : ((Rows.rulesDecidesRow.inPlace == Tryz.prog.inPlace 8)) = true := by kernel_rfl
theorem cf8_10 : ((Rows.rulesDecidesRow.unfollowed == Tryz.prog.unfollowed 8)) = true := by kernel_rfl
theorem cf8_11 : ((Rows.rulesDecidesRow.recurses == Tryz.prog.recurses 8)) = true := by kernel_rfl
theorem cf8_12 : ((Rows.rulesDecidesRow.named == Tryz.prog.varsNamed 8)) = true := by kernel_rfl
theorem cf8_13 : ((Rows.rulesDecidesRow.maps == (Tryz.f8.params.toList ++ Rows.rulesDecidesSpec.plain.varTypes Tryz.prog).any (Tryz.prog.mapsRec ·))) = true := by kernel_rfl
theorem cf8_14 : ((Rows.rulesDecidesRow.ifaces == (Tryz.f8.params.toList ++ Rows.rulesDecidesSpec.plain.varTypes Tryz.prog).any (Tryz.prog.ifacesRec ·))) = true := by kernel_rfl
theorem cf8_15 : ((Rows.rulesDecidesRow.mapsOut == Tryz.prog.mapsAmong Tryz.f8.resultTypes.toList)) = true := by kernel_rfl
theorem cf8_16 : ((Rows.rulesDecidesRow.loops == (Tryz.f8.params.toList ++ Rows.rulesDecidesSpec.plain.varTypes Tryz.prog).any (Tryz.prog.loopsFrom ·))) = true := by kernel_rfl
theorem cf8_17 : ((Rows.rulesDecidesRow.wideKeys == (Tryz.f8.params.toList ++ Rows.rulesDecidesSpec.plain.varTypes Tryz.prog ++ Tryz.f8.resultTypes.toList).any (Tryz.prog.wideKeysFrom ·))) = true := by kernel_rfl
theorem cf8_18 : (Rows.rulesDecidesSpec.vars.all (Tryz.prog.varReadable ·)) = true := by kernel_rfl
theorem cf8_19 : (Tryz.f8.resultTypes.all (fun t => Tryz.prog.readableRec t && decide (t < Tryz.prog.types.size))) = true := by kernel_rfl
theorem cf8_20 : ((Rows.rulesDecidesRow.ifacesOut == Tryz.f8.resultTypes.toList.any (Tryz.prog.ifacesRec ·))) = true := by kernel_rfl
theorem cf8_21 : ((Rows.rulesDecidesRow.loopsOut == Tryz.f8.resultTypes.toList.any (Tryz.prog.loopsFrom ·))) = true := by kernel_rfl
theorem cf8_23 : (Rows.rulesDecidesRow.shortTexts.isNone) = true := by kernel_rfl
theorem cf8_28 : ((Rows.rulesDecidesRow.kinds == (if Rows.rulesDecidesRow.domain.isEmpty then [] else Tryz.f8.params.toList.map fun t => match Tryz.prog.underlying t with | some (.int k) => some k | _ => none))) = true := by kernel_rfl
theorem cf8_29 : ((Rows.rulesDecidesRow.pinned == Rows.rulesDecidesRow.pinnedBy)) = true := by kernel_rfl
theorem cf8_30 : ((Rows.rulesDecidesRow.veiled == (Tryz.f8.params.toList ++ Rows.rulesDecidesSpec.plain.varTypes Tryz.prog ++ Tryz.f8.resultTypes.toList).any (Tryz.prog.veiledRec ·))) = true := by kernel_rfl
theorem cf8_31 : (Rows.rulesDecidesRow.veiledFits Tryz.prog Tryz.f8.params.toList (Tryz.f8.params.toList ++ Rows.rulesDecidesSpec.plain.varTypes Tryz.prog ++ Tryz.f8.resultTypes.toList)) = true := by kernel_rfl
theorem facts8 : joinedFacts Tryz.prog 8 Tryz.f8 Rows.rulesDecidesSpec Rows.rulesDecidesRow = true := (band (band (band (band (band (band (band (band (band (band (band (band (band (band (band (band (band (band (band (band (band (band (band (band (band (band (band (band (band (band (band cf8_0 pf_laidOut) pf_mapsRowed) cf8_3) cf8_4) cf8_5) pf_stops) cf8_7) pf_stopKnobs) cf8_9) cf8_10) cf8_11) cf8_12) cf8_13) cf8_14) cf8_15) cf8_16) cf8_17) cf8_18) cf8_19) cf8_20) cf8_21) pf_plainKeys) cf8_23) pf_stopsHeard) pf_mayEnter) pf_lifts) pf_make) cf8_28) cf8_29) cf8_30) cf8_31)
theorem named8 : Tryz.pinned.checked.prog.funcNamed Rows.rulesDecidesRow.func = some 8 := by kernel_rfl
theorem inst8 : Tryz.f8.isInstance Tryz.pinned.checked.prog Rows.rulesDecidesRow.origin Rows.rulesDecidesRow.targs := of_decide_eq_true (by kernel_rfl)
theorem wrap8 : Tryz.f8.isWrapper Tryz.pinned.checked.prog Rows.rulesDecidesRow.wrapper Rows.rulesDecidesRow.mainSum := by unfold Func.isWrapper; first | (rw [if_pos (by decide +kernel)]; kernel_rfl) | (rw [if_neg (by decide +kernel)]; exact ⟨rfl, rfl⟩)
theorem wfText8 : Rows.rulesDecidesRow.wfByText (OpenSpec.ofChange Rows.rulesDecidesSpec) = true := by kernel_rfl
theorem goes8 : false = Rows.rulesDecidesRow.goesBy Tryz.pinned.checked.prog := by kernel_rfl
end Go.Proofs.YtljjkomdibkjpaaGreatDoor
