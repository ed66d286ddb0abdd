/- Closed facts of one row. -/
import Derived.Test.YtdpfgjljehajbaaGreatDoorJF
set_option linter.unusedVariables false
set_option linter.unusedSimpArgs false
/-! CF19 -/
set_option maxRecDepth 100000
set_option linter.unusedVariables false
namespace Go.Proofs.YtdpfgjljehajbaaGreatDoor
open Go Go.ChangeShapes Go.WideShapes Go.ChangeAt Go.RowKit
theorem cf19_0 : (Rows.honoursTimesSpentRow.wf (OpenSpec.ofChange Rows.honoursTimesSpentSpec)) = true := by kernel_rfl
theorem cf19_3 : (Tryz.f19.params.all (Tryz.prog.readableRec ·)) = true := by kernel_rfl
theorem cf19_4 : (namedTie Tryz.prog Rows.honoursTimesSpentRow.named Rows.honoursTimesSpentSpec.vars) = true := by kernel_rfl
theorem cf19_5 : ((Rows.honoursTimesSpentRow.stops == [])) = true := by kernel_rfl
theorem cf19_7 : ((Rows.honoursTimesSpentRow.knobs == [])) = true := by kernel_rfl
theorem cf19_9 : ((Rows.honoursTimesSpentRow.inPlace == Tryz.prog.inPlace 19)) = true := by kernel_rfl
theorem cf19_10 : ((Rows.honoursTimesSpentRow.unfollowed == Tryz.prog.unfollowed 19)) = true := by kernel_rfl
theorem cf19_11 : ((Rows.honoursTimesSpentRow.recurses == Tryz.prog.recurses 19)) = true := by kernel_rfl
theorem cf19_12 : ((Rows.honoursTimesSpentRow.named == Tryz.prog.varsNamed 19)) = true := by kernel_rfl
theorem cf19_13 : ((Rows.honoursTimesSpentRow.maps == (Tryz.f19.params.toList ++ Rows.honoursTimesSpentSpec.plain.varTypes Tryz.prog).any (Tryz.prog.mapsRec ·))) = true := by kernel_rfl
theorem cf19_14 : ((Rows.honoursTimesSpentRow.ifaces == (Tryz.f19.params.toList ++ Rows.honoursTimesSpentSpec.plain.varTypes Tryz.prog).any (Tryz.prog.ifacesRec ·))) = true := by kernel_rfl
theorem cf19_15 : ((Rows.honoursTimesSpentRow.mapsOut == Tryz.prog.mapsAmong Tryz.f19.resultTypes.toList)) = true := by kernel_rfl
theorem cf19_16 : ((Rows.honoursTimesSpentRow.loops == (Tryz.f19.params.toList ++ Rows.honoursTimesSpentSpec.plain.varTypes Tryz.prog).any (Tryz.prog.loopsFrom ·))) = true := by kernel_rfl
theorem cf19_17 : ((Rows.honoursTimesSpentRow.wideKeys == (Tryz.f19.params.toList ++ Rows.honoursTimesSpentSpec.plain.varTypes Tryz.prog ++ Tryz.f19.resultTypes.toList).any (Tryz.prog.wideKeysFrom ·))) = true := by kernel_rfl
theorem cf19_18 : (Rows.honoursTimesSpentSpec.vars.all (Tryz.prog.varReadable ·)) = true := by kernel_rfl
theorem cf19_19 : (Tryz.f19.resultTypes.all (fun t => Tryz.prog.readableRec t && decide (t < Tryz.prog.types.size))) = true := by kernel_rfl
theorem cf19_20 : ((Rows.honoursTimesSpentRow.ifacesOut == Tryz.f19.resultTypes.toList.any (Tryz.prog.ifacesRec ·))) = true := by kernel_rfl
theorem cf19_21 : ((Rows.honoursTimesSpentRow.loopsOut == Tryz.f19.resultTypes.toList.any (Tryz.prog.loopsFrom ·))) = true := by kernel_rfl
theorem cf19_23 : (Rows.honoursTimesSpentRow.shortTexts.isNone) = true := by kernel_rfl
theorem cf19_28 : ((Rows.honoursTimesSpentRow.kinds == (if Rows.honoursTimesSpentRow.domain.isEmpty then [] else Tryz.f19.params.toList.map fun t => match Tryz.prog.underlying t with | some (.int k) => some k | _ => none))) = true := by kernel_rfl
theorem cf19_29 : ((Rows.honoursTimesSpentRow.pinned == Rows.honoursTimesSpentRow.pinnedBy)) = true := by kernel_rfl
theorem cf19_30 : ((Rows.honoursTimesSpentRow.veiled == (Tryz.f19.params.toList ++ Rows.honoursTimesSpentSpec.plain.varTypes Tryz.prog ++ Tryz.f19.resultTypes.toList).any (Tryz.prog.veiledRec ·))) = true := by kernel_rfl
theorem cf19_31 : (Rows.honoursTimesSpentRow.veiledFits Tryz.prog Tryz.f19.params.toList (Tryz.f19.params.toList ++ Rows.honoursTimesSpentSpec.plain.varTypes Tryz.prog ++ Tryz.f19.resultTypes.toList)) = true := by kernel_rfl
theorem facts19 : joinedFacts Tryz.prog 19 Tryz.f19 Rows.honoursTimesSpentSpec Rows.honoursTimesSpentRow = true := (band (band (band (band (band (band (band (band (band (band (band (band (band (band (band (band (band (band (band (band (band (band (band (band (band (band (band (band (band (band (band cf19_0 pf_laidOut) pf_mapsRowed) cf19_3) cf19_4) cf19_5) pf_stops) cf19_7) pf_stopKnobs) cf19_9) cf19_10) cf19_11) cf19_12) cf19_13) cf19_14) cf19_15) cf19_16) cf19_17) cf19_18) cf19_19) cf19_20) cf19_21) pf_plainKeys) cf19_23) pf_stopsHeard) pf_mayEnter) pf_lifts) pf_make) cf19_28) cf19_29) cf19_30) cf19_31)
theorem named19 : Tryz.pinned.checked.prog.funcNamed Rows.honoursTimesSpentRow.func = some 19 := by kernel_rfl
theorem inst19 : Tryz.f19.isInstance Tryz.pinned.checked.prog Rows.honoursTimesSpentRow.origin Rows.honoursTimesSpentRow.targs := of_decide_eq_true (by kernel_rfl)
theorem wrap19 : Tryz.f19.isWrapper Tryz.pinned.checked.prog Rows.honoursTimesSpentRow.wrapper Rows.honoursTimesSpentRow.mainSum := by unfold Func.isWrapper; first | (rw [if_pos (by decide +kernel)]; kernel_rfl) | (rw [if_neg (by decide +kernel)]; exact ⟨rfl, rfl⟩)
theorem wfText19 : Rows.honoursTimesSpentRow.wfByText (OpenSpec.ofChange Rows.honoursTimesSpentSpec) = true := by kernel_rfl
theorem goes19 : false = Rows.honoursTimesSpentRow.goesBy Tryz.pinned.checked.prog := by kernel_rfl
end Go.Proofs.YtdpfgjljehajbaaGreatDoor
