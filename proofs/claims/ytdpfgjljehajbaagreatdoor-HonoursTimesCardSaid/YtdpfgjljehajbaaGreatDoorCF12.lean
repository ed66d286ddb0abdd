/- Closed facts of one row. -/
import Derived.Test.YtdpfgjljehajbaaGreatDoorJF
set_option linter.unusedVariables false
set_option linter.unusedSimpArgs false
/-! CF12 -/
set_option maxRecDepth 100000
set_option linter.unusedVariables false
namespace Go.Proofs.YtdpfgjljehajbaaGreatDoor
open Go Go.ChangeShapes Go.WideShapes Go.ChangeAt Go.RowKit
theorem cf12_0 : (Rows.honoursTimesRow.wf (OpenSpec.ofChange Rows.honoursTimesSpec)) = true := by kernel_rfl
theorem cf12_3 : (Tryz.f12.params.all (Tryz.prog.readableRec ·)) = true := by kernel_rfl
theorem cf12_4 : (namedTie Tryz.prog Rows.honoursTimesRow.named Rows.honoursTimesSpec.vars) = true := by kernel_rfl
theorem cf12_5 : ((Rows.honoursTimesRow.stops == [])) = true := by kernel_rfl
theorem cf12_7 : ((Rows.honoursTimesRow.knobs == [])) = true := by kernel_rfl
theorem cf12_9 : ((Rows.honoursTimesRow.inPlace == Tryz.prog.inPlace 12)) = true := by kernel_rfl
theorem cf12_10 : ((Rows.honoursTimesRow.unfollowed == Tryz.prog.unfollowed 12)) = true := by kernel_rfl
theorem cf12_11 : ((Rows.honoursTimesRow.recurses == Tryz.prog.recurses 12)) = true := by kernel_rfl
theorem cf12_12 : ((Rows.honoursTimesRow.named == Tryz.prog.varsNamed 12)) = true := by kernel_rfl
theorem cf12_13 : ((Rows.honoursTimesRow.maps == (Tryz.f12.params.toList ++ Rows.honoursTimesSpec.plain.varTypes Tryz.prog).any (Tryz.prog.mapsRec ·))) = true := by kernel_rfl
theorem cf12_14 : ((Rows.honoursTimesRow.ifaces == (Tryz.f12.params.toList ++ Rows.honoursTimesSpec.plain.varTypes Tryz.prog).any (Tryz.prog.ifacesRec ·))) = true := by kernel_rfl
theorem cf12_15 : ((Rows.honoursTimesRow.mapsOut == Tryz.prog.mapsAmong Tryz.f12.resultTypes.toList)) = true := by kernel_rfl
theorem cf12_16 : ((Rows.honoursTimesRow.loops == (Tryz.f12.params.toList ++ Rows.honoursTimesSpec.plain.varTypes Tryz.prog).any (Tryz.prog.loopsFrom ·))) = true := by kernel_rfl
theorem cf12_17 : ((Rows.honoursTimesRow.wideKeys == (Tryz.f12.params.toList ++ Rows.honoursTimesSpec.plain.varTypes Tryz.prog ++ Tryz.f12.resultTypes.toList).any (Tryz.prog.wideKeysFrom ·))) = true := by kernel_rfl
theorem cf12_18 : (Rows.honoursTimesSpec.vars.all (Tryz.prog.varReadable ·)) = true := by kernel_rfl
theorem cf12_19 : (Tryz.f12.resultTypes.all (fun t => Tryz.prog.readableRec t && decide (t < Tryz.prog.types.size))) = true := by kernel_rfl
theorem cf12_20 : ((Rows.honoursTimesRow.ifacesOut == Tryz.f12.resultTypes.toList.any (Tryz.prog.ifacesRec ·))) = true := by kernel_rfl
theorem cf12_21 : ((Rows.honoursTimesRow.loopsOut == Tryz.f12.resultTypes.toList.any (Tryz.prog.loopsFrom ·))) = true := by kernel_rfl
theorem cf12_23 : (Rows.honoursTimesRow.shortTexts.isNone) = true := by kernel_rfl
theorem cf12_28 : ((Rows.honoursTimesRow.kinds == (if Rows.honoursTimesRow.domain.isEmpty then [] else Tryz.f12.params.toList.map fun t => match Tryz.prog.underlying t with | some (.int k) => some k | _ => none))) = true := by kernel_rfl
theorem cf12_29 : ((Rows.honoursTimesRow.pinned == Rows.honoursTimesRow.pinnedBy)) = true := by kernel_rfl
theorem cf12_30 : ((Rows.honoursTimesRow.veiled == (Tryz.f12.params.toList ++ Rows.honoursTimesSpec.plain.varTypes Tryz.prog ++ Tryz.f12.resultTypes.toList).any (Tryz.prog.veiledRec ·))) = true := by kernel_rfl
theorem cf12_31 : (Rows.honoursTimesRow.veiledFits Tryz.prog Tryz.f12.params.toList (Tryz.f12.params.toList ++ Rows.honoursTimesSpec.plain.varTypes Tryz.prog ++ Tryz.f12.resultTypes.toList)) = true := by kernel_rfl
theorem facts12 : joinedFacts Tryz.prog 12 Tryz.f12 Rows.honoursTimesSpec Rows.honoursTimesRow = true := (band (band (band (band (band (band (band (band (band (band (band (band (band (band (band (band (band (band (band (band (band (band (band (band (band (band (band (band (band (band (band cf12_0 pf_laidOut) pf_mapsRowed) cf12_3) cf12_4) cf12_5) pf_stops) cf12_7) pf_stopKnobs) cf12_9) cf12_10) cf12_11) cf12_12) cf12_13) cf12_14) cf12_15) cf12_16) cf12_17) cf12_18) cf12_19) cf12_20) cf12_21) pf_plainKeys) cf12_23) pf_stopsHeard) pf_mayEnter) pf_lifts) pf_make) cf12_28) cf12_29) cf12_30) cf12_31)
theorem named12 : Tryz.pinned.checked.prog.funcNamed Rows.honoursTimesRow.func = some 12 := by kernel_rfl
theorem inst12 : Tryz.f12.isInstance Tryz.pinned.checked.prog Rows.honoursTimesRow.origin Rows.honoursTimesRow.targs := of_decide_eq_true (by kernel_rfl)
theorem wrap12 : Tryz.f12.isWrapper Tryz.pinned.checked.prog Rows.honoursTimesRow.wrapper Rows.honoursTimesRow.mainSum := by unfold Func.isWrapper; first | (rw [if_pos (by decide +kernel)]; kernel_rfl) | (rw [if_neg (by decide +kernel)]; exact ⟨rfl, rfl⟩)
theorem wfText12 : Rows.honoursTimesRow.wfByText (OpenSpec.ofChange Rows.honoursTimesSpec) = true := by kernel_rfl
theorem goes12 : false = Rows.honoursTimesRow.goesBy Tryz.pinned.checked.prog := by kernel_rfl
end Go.Proofs.YtdpfgjljehajbaaGreatDoor
