/- Closed facts of one row. -/
import Derived.Test.YtdpfgjljehajbaaGreatDoorJF
set_option linter.unusedVariables false
set_option linter.unusedSimpArgs false
/-! CF15 -/
set_option maxRecDepth 100000
set_option linter.unusedVariables false
namespace Go.Proofs.YtdpfgjljehajbaaGreatDoor
open Go Go.ChangeShapes Go.WideShapes Go.ChangeAt Go.RowKit
theorem cf15_0 : (Rows.honoursBatteryRow.wf (OpenSpec.ofChange Rows.honoursBatterySpec)) = true := by kernel_rfl
theorem cf15_3 : (Tryz.f15.params.all (Tryz.prog.readableRec ·)) = true := by kernel_rfl
theorem cf15_4 : (namedTie Tryz.prog Rows.honoursBatteryRow.named Rows.honoursBatterySpec.vars) = true := by kernel_rfl
theorem cf15_5 : ((Rows.honoursBatteryRow.stops == [])) = true := by kernel_rfl
theorem cf15_7 : ((Rows.honoursBatteryRow.knobs == [])) = true := by kernel_rfl
theorem cf15_9 : ((Rows.honoursBatteryRow.inPlace == Tryz.prog.inPlace 15)) = true := by kernel_rfl
theorem cf15_10 : ((Rows.honoursBatteryRow.unfollowed == Tryz.prog.unfollowed 15)) = true := by kernel_rfl
theorem cf15_11 : ((Rows.honoursBatteryRow.recurses == Tryz.prog.recurses 15)) = true := by kernel_rfl
theorem cf15_12 : ((Rows.honoursBatteryRow.named == Tryz.prog.varsNamed 15)) = true := by kernel_rfl
theorem cf15_13 : ((Rows.honoursBatteryRow.maps == (Tryz.f15.params.toList ++ Rows.honoursBatterySpec.plain.varTypes Tryz.prog).any (Tryz.prog.mapsRec ·))) = true := by kernel_rfl
theorem cf15_14 : ((Rows.honoursBatteryRow.ifaces == (Tryz.f15.params.toList ++ Rows.honoursBatterySpec.plain.varTypes Tryz.prog).any (Tryz.prog.ifacesRec ·))) = true := by kernel_rfl
theorem cf15_15 : ((Rows.honoursBatteryRow.mapsOut == Tryz.prog.mapsAmong Tryz.f15.resultTypes.toList)) = true := by kernel_rfl
theorem cf15_16 : ((Rows.honoursBatteryRow.loops == (Tryz.f15.params.toList ++ Rows.honoursBatterySpec.plain.varTypes Tryz.prog).any (Tryz.prog.loopsFrom ·))) = true := by kernel_rfl
theorem cf15_17 : ((Rows.honoursBatteryRow.wideKeys == (Tryz.f15.params.toList ++ Rows.honoursBatterySpec.plain.varTypes Tryz.prog ++ Tryz.f15.resultTypes.toList).any (Tryz.prog.wideKeysFrom ·))) = true := by kernel_rfl
theorem cf15_18 : (Rows.honoursBatterySpec.vars.all (Tryz.prog.varReadable ·)) = true := by kernel_rfl
theorem cf15_19 : (Tryz.f15.resultTypes.all (fun t => Tryz.prog.readableRec t && decide (t < Tryz.prog.types.size))) = true := by kernel_rfl
theorem cf15_20 : ((Rows.honoursBatteryRow.ifacesOut == Tryz.f15.resultTypes.toList.any (Tryz.prog.ifacesRec ·))) = true := by kernel_rfl
theorem cf15_21 : ((Rows.honoursBatteryRow.loopsOut == Tryz.f15.resultTypes.toList.any (Tryz.prog.loopsFrom ·))) = true := by kernel_rfl
theorem cf15_23 : (Rows.honoursBatteryRow.shortTexts.isNone) = true := by kernel_rfl
theorem cf15_28 : ((Rows.honoursBatteryRow.kinds == (if Rows.honoursBatteryRow.domain.isEmpty then [] else Tryz.f15.params.toList.map fun t => match Tryz.prog.underlying t with | some (.int k) => some k | _ => none))) = true := by kernel_rfl
theorem cf15_29 : ((Rows.honoursBatteryRow.pinned == Rows.honoursBatteryRow.pinnedBy)) = true := by kernel_rfl
theorem cf15_30 : ((Rows.honoursBatteryRow.veiled == (Tryz.f15.params.toList ++ Rows.honoursBatterySpec.plain.varTypes Tryz.prog ++ Tryz.f15.resultTypes.toList).any (Tryz.prog.veiledRec ·))) = true := by kernel_rfl
theorem cf15_31 : (Rows.honoursBatteryRow.veiledFits Tryz.prog Tryz.f15.params.toList (Tryz.f15.params.toList ++ Rows.honoursBatterySpec.plain.varTypes Tryz.prog ++ Tryz.f15.resultTypes.toList)) = true := by kernel_rfl
theorem facts15 : joinedFacts Tryz.prog 15 Tryz.f15 Rows.honoursBatterySpec Rows.honoursBatteryRow = true := (band (band (band (band (band (band (band (band (band (band (band (band (band (band (band (band (band (band (band (band (band (band (band (band (band (band (band (band (band (band (band cf15_0 pf_laidOut) pf_mapsRowed) cf15_3) cf15_4) cf15_5) pf_stops) cf15_7) pf_stopKnobs) cf15_9) cf15_10) cf15_11) cf15_12) cf15_13) cf15_14) cf15_15) cf15_16) cf15_17) cf15_18) cf15_19) cf15_20) cf15_21) pf_plainKeys) cf15_23) pf_stopsHeard) pf_mayEnter) pf_lifts) pf_make) cf15_28) cf15_29) cf15_30) cf15_31)
theorem named15 : Tryz.pinned.checked.prog.funcNamed Rows.honoursBatteryRow.func = some 15 := by kernel_rfl
theorem inst15 : Tryz.f15.isInstance Tryz.pinned.checked.prog Rows.honoursBatteryRow.origin Rows.honoursBatteryRow.targs := of_decide_eq_true (by kernel_rfl)
theorem wrap15 : Tryz.f15.isWrapper Tryz.pinned.checked.prog Rows.honoursBatteryRow.wrapper Rows.honoursBatteryRow.mainSum := by unfold Func.isWrapper; first | (rw [if_pos (by decide +kernel)]; kernel_rfl) | (rw [if_neg (by decide +kernel)]; exact ⟨rfl, rfl⟩)
theorem wfText15 : Rows.honoursBatteryRow.wfByText (OpenSpec.ofChange Rows.honoursBatterySpec) = true := by kernel_rfl
theorem goes15 : false = Rows.honoursBatteryRow.goesBy Tryz.pinned.checked.prog := by kernel_rfl
end Go.Proofs.YtdpfgjljehajbaaGreatDoor
