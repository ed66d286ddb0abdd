/- Closed facts of one row. -/
import Derived.Test.YtdpfgjljehajbaaGreatDoorJF
set_option linter.unusedVariables false
set_option linter.unusedSimpArgs false
/-! CF17 -/
set_option maxRecDepth 100000
set_option linter.unusedVariables false
namespace Go.Proofs.YtdpfgjljehajbaaGreatDoor
open Go Go.ChangeShapes Go.WideShapes Go.ChangeAt Go.RowKit
theorem cf17_0 : (Rows.honoursTunesRow.wf (OpenSpec.ofChange Rows.honoursTunesSpec)) = true := by kernel_rfl
theorem cf17_3 : (Tryz.f17.params.all (Tryz.prog.readableRec ·)) = true := by kernel_rfl
theorem cf17_4 : (namedTie Tryz.prog Rows.honoursTunesRow.named Rows.honoursTunesSpec.vars) = true := by kernel_rfl
theorem cf17_5 : ((Rows.honoursTunesRow.stops == [])) = true := by kernel_rfl
theorem cf17_7 : ((Rows.honoursTunesRow.knobs == [])) = true := by kernel_rfl
theorem cf17_9 : ((Rows.honoursTunesRow.inPlace == Tryz.prog.inPlace 17)) = true := by kernel_rfl
theorem cf17_10 : ((Rows.honoursTunesRow.unfollowed == Tryz.prog.unfollowed 17)) = true := by kernel_rfl
theorem cf17_11 : ((Rows.honoursTunesRow.recurses == Tryz.prog.recurses 17)) = true := by kernel_rfl
theorem cf17_12 : ((Rows.honoursTunesRow.named == Tryz.prog.varsNamed 17)) = true := by kernel_rfl
theorem cf17_13 : ((Rows.honoursTunesRow.maps == (Tryz.f17.params.toList ++ Rows.honoursTunesSpec.plain.varTypes Tryz.prog).any (Tryz.prog.mapsRec ·))) = true := by kernel_rfl
theorem cf17_14 : ((Rows.honoursTunesRow.ifaces == (Tryz.f17.params.toList ++ Rows.honoursTunesSpec.plain.varTypes Tryz.prog).any (Tryz.prog.ifacesRec ·))) = true := by kernel_rfl
theorem cf17_15 : ((Rows.honoursTunesRow.mapsOut == Tryz.prog.mapsAmong Tryz.f17.resultTypes.toList)) = true := by kernel_rfl
theorem cf17_16 : ((Rows.honoursTunesRow.loops == (Tryz.f17.params.toList ++ Rows.honoursTunesSpec.plain.varTypes Tryz.prog).any (Tryz.prog.loopsFrom ·))) = true := by kernel_rfl
theorem cf17_17 : ((Rows.honoursTunesRow.wideKeys == (Tryz.f17.params.toList ++ Rows.honoursTunesSpec.plain.varTypes Tryz.prog ++ Tryz.f17.resultTypes.toList).any (Tryz.prog.wideKeysFrom ·))) = true := by kernel_rfl
theorem cf17_18 : (Rows.honoursTunesSpec.vars.all (Tryz.prog.varReadable ·)) = true := by kernel_rfl
theorem cf17_19 : (Tryz.f17.resultTypes.all (fun t => Tryz.prog.readableRec t && decide (t < Tryz.prog.types.size))) = true := by kernel_rfl
theorem cf17_20 : ((Rows.honoursTunesRow.ifacesOut == Tryz.f17.resultTypes.toList.any (Tryz.prog.ifacesRec ·))) = true := by kernel_rfl
theorem cf17_21 : ((Rows.honoursTunesRow.loopsOut == Tryz.f17.resultTypes.toList.any (Tryz.prog.loopsFrom ·))) = true := by kernel_rfl
theorem cf17_23 : (Rows.honoursTunesRow.shortTexts.isNone) = true := by kernel_rfl
theorem cf17_28 : ((Rows.honoursTunesRow.kinds == (if Rows.honoursTunesRow.domain.isEmpty then [] else Tryz.f17.params.toList.map fun t => match Tryz.prog.underlying t with | some (.int k) => some k | _ => none))) = true := by kernel_rfl
theorem cf17_29 : ((Rows.honoursTunesRow.pinned == Rows.honoursTunesRow.pinnedBy)) = true := by kernel_rfl
theorem cf17_30 : ((Rows.honoursTunesRow.veiled == (Tryz.f17.params.toList ++ Rows.honoursTunesSpec.plain.varTypes Tryz.prog ++ Tryz.f17.resultTypes.toList).any (Tryz.prog.veiledRec ·))) = true := by kernel_rfl
theorem cf17_31 : (Rows.honoursTunesRow.veiledFits Tryz.prog Tryz.f17.params.toList (Tryz.f17.params.toList ++ Rows.honoursTunesSpec.plain.varTypes Tryz.prog ++ Tryz.f17.resultTypes.toList)) = true := by kernel_rfl
theorem facts17 : joinedFacts Tryz.prog 17 Tryz.f17 Rows.honoursTunesSpec Rows.honoursTunesRow = true := (band (band (band (band (band (band (band (band (band (band (band (band (band (band (band (band (band (band (band (band (band (band (band (band (band (band (band (band (band (band (band cf17_0 pf_laidOut) pf_mapsRowed) cf17_3) cf17_4) cf17_5) pf_stops) cf17_7) pf_stopKnobs) cf17_9) cf17_10) cf17_11) cf17_12) cf17_13) cf17_14) cf17_15) cf17_16) cf17_17) cf17_18) cf17_19) cf17_20) cf17_21) pf_plainKeys) cf17_23) pf_stopsHeard) pf_mayEnter) pf_lifts) pf_make) cf17_28) cf17_29) cf17_30) cf17_31)
theorem named17 : Tryz.pinned.checked.prog.funcNamed Rows.honoursTunesRow.func = some 17 := by kernel_rfl
theorem inst17 : Tryz.f17.isInstance Tryz.pinned.checked.prog Rows.honoursTunesRow.origin Rows.honoursTunesRow.targs := of_decide_eq_true (by kernel_rfl)
theorem wrap17 : Tryz.f17.isWrapper Tryz.pinned.checked.prog Rows.honoursTunesRow.wrapper Rows.honoursTunesRow.mainSum := by unfold Func.isWrapper; first | (rw [if_pos (by decide +kernel)]; kernel_rfl) | (rw [if_neg (by decide +kernel)]; exact ⟨rfl, rfl⟩)
theorem wfText17 : Rows.honoursTunesRow.wfByText (OpenSpec.ofChange Rows.honoursTunesSpec) = true := by kernel_rfl
theorem goes17 : false = Rows.honoursTunesRow.goesBy Tryz.pinned.checked.prog := by kernel_rfl
end Go.Proofs.YtdpfgjljehajbaaGreatDoor
