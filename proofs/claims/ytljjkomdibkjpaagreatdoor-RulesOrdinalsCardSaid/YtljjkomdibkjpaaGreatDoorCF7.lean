/- Closed facts of one row. -/
import Derived.Test.YtljjkomdibkjpaaGreatDoorJF
set_option linter.unusedVariables false
set_option linter.unusedSimpArgs false
/-! CF7 -/
set_option maxRecDepth 100000
set_option linter.unusedVariables false
namespace Go.Proofs.YtljjkomdibkjpaaGreatDoor
open Go Go.ChangeShapes Go.WideShapes Go.ChangeAt Go.RowKit
theorem cf7_0 : (Rows.rulesOrdinalsRow.wf (OpenSpec.ofChange Rows.rulesOrdinalsSpec)) = true := by kernel_rfl
theorem cf7_3 : (Tryz.f7.params.all (Tryz.prog.readableRec ·)) = true := by kernel_rfl
theorem cf7_4 : (namedTie Tryz.prog Rows.rulesOrdinalsRow.named Rows.rulesOrdinalsSpec.vars) = true := by kernel_rfl
theorem cf7_5 : ((Rows.rulesOrdinalsRow.stops == [])) = true := by kernel_rfl
theorem cf7_7 : ((Rows.rulesOrdinalsRow.knobs == [])) = true := by kernel_rfl
theorem cf7_9 : ((Rows.rulesOrdinalsRow.inPlace == Tryz.prog.inPlace 7)) = true := by kernel_rfl
theorem cf7_10 : ((Rows.rulesOrdinalsRow.unfollowed == Tryz.prog.unfollowed 7)) = true := by kernel_rfl
theorem cf7_11 : ((Rows.rulesOrdinalsRow.recurses == Tryz.prog.recurses 7)) = true := by kernel_rfl
theorem cf7_12 : ((Rows.rulesOrdinalsRow.named == Tryz.prog.varsNamed 7)) = true := by kernel_rfl
theorem cf7_13 : ((Rows.rulesOrdinalsRow.maps == (Tryz.f7.params.toList ++ Rows.rulesOrdinalsSpec.plain.varTypes Tryz.prog).any (Tryz.prog.mapsRec ·))) = true := by kernel_rfl
theorem cf7_14 : ((Rows.rulesOrdinalsRow.ifaces == (Tryz.f7.params.toList ++ Rows.rulesOrdinalsSpec.plain.varTypes Tryz.prog).any (Tryz.prog.ifacesRec ·))) = true := by kernel_rfl
theorem cf7_15 : ((Rows.rulesOrdinalsRow.mapsOut == Tryz.prog.mapsAmong Tryz.f7.resultTypes.toList)) = true := by kernel_rfl
theorem cf7_16 : ((Rows.rulesOrdinalsRow.loops == (Tryz.f7.params.toList ++ Rows.rulesOrdinalsSpec.plain.varTypes Tryz.prog).any (Tryz.prog.loopsFrom ·))) = true := by kernel_rfl
theorem cf7_17 : ((Rows.rulesOrdinalsRow.wideKeys == (Tryz.f7.params.toList ++ Rows.rulesOrdinalsSpec.plain.varTypes Tryz.prog ++ Tryz.f7.resultTypes.toList).any (Tryz.prog.wideKeysFrom ·))) = true := by kernel_rfl
theorem cf7_18 : (Rows.rulesOrdinalsSpec.vars.all (Tryz.prog.varReadable ·)) = true := by kernel_rfl
theorem cf7_19 : (Tryz.f7.resultTypes.all (fun t => Tryz.prog.readableRec t && decide (t < Tryz.prog.types.size))) = true := by kernel_rfl
theorem cf7_20 : ((Rows.rulesOrdinalsRow.ifacesOut == Tryz.f7.resultTypes.toList.any (Tryz.prog.ifacesRec ·))) = true := by kernel_rfl
theorem cf7_21 : ((Rows.rulesOrdinalsRow.loopsOut == Tryz.f7.resultTypes.toList.any (Tryz.prog.loopsFrom ·))) = true := by kernel_rfl
theorem cf7_23 : (Rows.rulesOrdinalsRow.shortTexts.isNone) = true := by kernel_rfl
theorem cf7_28 : ((Rows.rulesOrdinalsRow.kinds == (if Rows.rulesOrdinalsRow.domain.isEmpty then [] else Tryz.f7.params.toList.map fun t => match Tryz.prog.underlying t with | some (.int k) => some k | _ => none))) = true := by kernel_rfl
theorem cf7_29 : ((Rows.rulesOrdinalsRow.pinned == Rows.rulesOrdinalsRow.pinnedBy)) = true := by kernel_rfl
theorem cf7_30 : ((Rows.rulesOrdinalsRow.veiled == (Tryz.f7.params.toList ++ Rows.rulesOrdinalsSpec.plain.varTypes Tryz.prog ++ Tryz.f7.resultTypes.toList).any (Tryz.prog.veiledRec ·))) = true := by kernel_rfl
theorem cf7_31 : (Rows.rulesOrdinalsRow.veiledFits Tryz.prog Tryz.f7.params.toList (Tryz.f7.params.toList ++ Rows.rulesOrdinalsSpec.plain.varTypes Tryz.prog ++ Tryz.f7.resultTypes.toList)) = true := by kernel_rfl
theorem facts7 : joinedFacts Tryz.prog 7 Tryz.f7 Rows.rulesOrdinalsSpec Rows.rulesOrdinalsRow = true := (band (band (band (band (band (band (band (band (band (band (band (band (band (band (band (band (band (band (band (band (band (band (band (band (band (band (band (band (band (band (band cf7_0 pf_laidOut) pf_mapsRowed) cf7_3) cf7_4) cf7_5) pf_stops) cf7_7) pf_stopKnobs) cf7_9) cf7_10) cf7_11) cf7_12) cf7_13) cf7_14) cf7_15) cf7_16) cf7_17) cf7_18) cf7_19) cf7_20) cf7_21) pf_plainKeys) cf7_23) pf_stopsHeard) pf_mayEnter) pf_lifts) pf_make) cf7_28) cf7_29) cf7_30) cf7_31)
theorem named7 : Tryz.pinned.checked.prog.funcNamed Rows.rulesOrdinalsRow.func = some 7 := by kernel_rfl
theorem inst7 : Tryz.f7.isInstance Tryz.pinned.checked.prog Rows.rulesOrdinalsRow.origin Rows.rulesOrdinalsRow.targs := of_decide_eq_true (by kernel_rfl)
theorem wrap7 : Tryz.f7.isWrapper Tryz.pinned.checked.prog Rows.rulesOrdinalsRow.wrapper Rows.rulesOrdinalsRow.mainSum := by unfold Func.isWrapper; first | (rw [if_pos (by decide +kernel)]; kernel_rfl) | (rw [if_neg (by decide +kernel)]; exact ⟨rfl, rfl⟩)
theorem wfText7 : Rows.rulesOrdinalsRow.wfByText (OpenSpec.ofChange Rows.rulesOrdinalsSpec) = true := by kernel_rfl
theorem goes7 : false = Rows.rulesOrdinalsRow.goesBy Tryz.pinned.checked.prog := by kernel_rfl
end Go.Proofs.YtljjkomdibkjpaaGreatDoor
