/- Closed facts of one row. -/
import Derived.Test.YtdpfgjljehajbaaGreatDoorJF
set_option linter.unusedVariables false
set_option linter.unusedSimpArgs false
/-! CF18 -/
set_option maxRecDepth 100000
set_option linter.unusedVariables false
namespace Go.Proofs.YtdpfgjljehajbaaGreatDoor
open Go Go.ChangeShapes Go.WideShapes Go.ChangeAt Go.RowKit
theorem cf18_0 : (Rows.honoursTurnsRow.wf (OpenSpec.ofChange Rows.honoursTurnsSpec)) = true := by kernel_rfl
theorem cf18_3 : (Tryz.f18.params.all (Tryz.prog.readableRec ·)) = true := by kernel_rfl
theorem cf18_4 : (namedTie Tryz.prog Rows.honoursTurnsRow.named Rows.honoursTurnsSpec.vars) = true := by kernel_rfl
theorem cf18_5 : ((Rows.honoursTurnsRow.stops == [])) = true := by kernel_rfl
theorem cf18_7 : ((Rows.honoursTurnsRow.knobs == [])) = true := by kernel_rfl
theorem cf18_9 : ((Rows.honoursTurnsRow.inPlace == Tryz.prog.inPlace 18)) = true := by kernel_rfl
theorem cf18_10 : ((Rows.honoursTurnsRow.unfollowed == Tryz.prog.unfollowed 18)) = true := by kernel_rfl
theorem cf18_11 : ((Rows.honoursTurnsRow.recurses == Tryz.prog.recurses 18)) = true := by kernel_rfl
theorem cf18_12 : ((Rows.honoursTurnsRow.named == Tryz.prog.varsNamed 18)) = true := by kernel_rfl
theorem cf18_13 : ((Rows.honoursTurnsRow.maps == (Tryz.f18.params.toList ++ Rows.honoursTurnsSpec.plain.varTypes Tryz.prog).any (Tryz.prog.mapsRec ·))) = true := by kernel_rfl
theorem cf18_14 : ((Rows.honoursTurnsRow.ifaces == (Tryz.f18.params.toList ++ Rows.honoursTurnsSpec.plain.varTypes Tryz.prog).any (Tryz.prog.ifacesRec ·))) = true := by kernel_rfl
theorem cf18_15 : ((Rows.honoursTurnsRow.mapsOut == Tryz.prog.mapsAmong Tryz.f18.resultTypes.toList)) = true := by kernel_rfl
theorem cf18_16 : ((Rows.honoursTurnsRow.loops == (Tryz.f18.params.toList ++ Rows.honoursTurnsSpec.plain.varTypes Tryz.prog).any (Tryz.prog.loopsFrom ·))) = true := by kernel_rfl
theorem cf18_17 : ((Rows.honoursTurnsRow.wideKeys == (Tryz.f18.params.toList ++ Rows.honoursTurnsSpec.plain.varTypes Tryz.prog ++ Tryz.f18.resultTypes.toList).any (Tryz.prog.wideKeysFrom ·))) = true := by kernel_rfl
theorem cf18_18 : (Rows.honoursTurnsSpec.vars.all (Tryz.prog.varReadable ·)) = true := by kernel_rfl
theorem cf18_19 : (Tryz.f18.resultTypes.all (fun t => Tryz.prog.readableRec t && decide (t < Tryz.prog.types.size))) = true := by kernel_rfl
theorem cf18_20 : ((Rows.honoursTurnsRow.ifacesOut == Tryz.f18.resultTypes.toList.any (Tryz.prog.ifacesRec ·))) = true := by kernel_rfl
theorem cf18_21 : ((Rows.honoursTurnsRow.loopsOut == Tryz.f18.resultTypes.toList.any (Tryz.prog.loopsFrom ·))) = true := by kernel_rfl
theorem cf18_23 : (Rows.honoursTurnsRow.shortTexts.isNone) = true := by kernel_rfl
theorem cf18_28 : ((Rows.honoursTurnsRow.kinds == (if Rows.honoursTurnsRow.domain.isEmpty then [] else Tryz.f18.params.toList.map fun t => match Tryz.prog.underlying t with | some (.int k) => some k | _ => none))) = true := by kernel_rfl
theorem cf18_29 : ((Rows.honoursTurnsRow.pinned == Rows.honoursTurnsRow.pinnedBy)) = true := by kernel_rfl
theorem cf18_30 : ((Rows.honoursTurnsRow.veiled == (Tryz.f18.params.toList ++ Rows.honoursTurnsSpec.plain.varTypes Tryz.prog ++ Tryz.f18.resultTypes.toList).any (Tryz.prog.veiledRec ·))) = true := by kernel_rfl
theorem cf18_31 : (Rows.honoursTurnsRow.veiledFits Tryz.prog Tryz.f18.params.toList (Tryz.f18.params.toList ++ Rows.honoursTurnsSpec.plain.varTypes Tryz.prog ++ Tryz.f18.resultTypes.toList)) = true := by kernel_rfl
theorem facts18 : joinedFacts Tryz.prog 18 Tryz.f18 Rows.honoursTurnsSpec Rows.honoursTurnsRow = true := (band (band (band (band (band (band (band (band (band (band (band (band (band (band (band (band (band (band (band (band (band (band (band (band (band (band (band (band (band (band (band cf18_0 pf_laidOut) pf_mapsRowed) cf18_3) cf18_4) cf18_5) pf_stops) cf18_7) pf_stopKnobs) cf18_9) cf18_10) cf18_11) cf18_12) cf18_13) cf18_14) cf18_15) cf18_16) cf18_17) cf18_18) cf18_19) cf18_20) cf18_21) pf_plainKeys) cf18_23) pf_stopsHeard) pf_mayEnter) pf_lifts) pf_make) cf18_28) cf18_29) cf18_30) cf18_31)
theorem named18 : Tryz.pinned.checked.prog.funcNamed Rows.honoursTurnsRow.func = some 18 := by kernel_rfl
theorem inst18 : Tryz.f18.isInstance Tryz.pinned.checked.prog Rows.honoursTurnsRow.origin Rows.honoursTurnsRow.targs := of_decide_eq_true (by kernel_rfl)
theorem wrap18 : Tryz.f18.isWrapper Tryz.pinned.checked.prog Rows.honoursTurnsRow.wrapper Rows.honoursTurnsRow.mainSum := by unfold Func.isWrapper; first | (rw [if_pos (by decide +kernel)]; kernel_rfl) | (rw [if_neg (by decide +kernel)]; exact ⟨rfl, rfl⟩)
theorem wfText18 : Rows.honoursTurnsRow.wfByText (OpenSpec.ofChange Rows.honoursTurnsSpec) = true := by kernel_rfl
theorem goes18 : false = Rows.honoursTurnsRow.goesBy Tryz.pinned.checked.prog := by kernel_rfl
end Go.Proofs.YtdpfgjljehajbaaGreatDoor
