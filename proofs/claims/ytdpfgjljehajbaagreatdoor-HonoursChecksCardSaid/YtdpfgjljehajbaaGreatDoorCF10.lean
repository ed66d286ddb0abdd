/- Closed facts of one row. -/
import Derived.Test.YtdpfgjljehajbaaGreatDoorJF
set_option linter.unusedVariables false
set_option linter.unusedSimpArgs false
/-! CF10 -/
set_option maxRecDepth 100000
set_option linter.unusedVariables false
namespace Go.Proofs.YtdpfgjljehajbaaGreatDoor
open Go Go.ChangeShapes Go.WideShapes Go.ChangeAt Go.RowKit
theorem cf10_0 : (Rows.honoursChecksRow.wf (OpenSpec.ofChange Rows.honoursChecksSpec)) = true := by kernel_rfl
theorem cf10_3 : (Tryz.f10.params.all (Tryz.prog.readableRec ·)) = true := by kernel_rfl
theorem cf10_4 : (namedTie Tryz.prog Rows.honoursChecksRow.named Rows.honoursChecksSpec.vars) = true := by kernel_rfl
theorem cf10_5 : ((Rows.honoursChecksRow.stops == [])) = true := by kernel_rfl
theorem cf10_7 : ((Rows.honoursChecksRow.knobs == [])) = true := by kernel_rfl
theorem cf10_9 : ((Rows.honoursChecksRow.inPlace == Tryz.prog.inPlace 10)) = true := by kernel_rfl
theorem cf10_10 : ((Rows.honoursChecksRow.unfollowed == Tryz.prog.unfollowed 10)) = true := by kernel_rfl
theorem cf10_11 : ((Rows.honoursChecksRow.recurses == Tryz.prog.recurses 10)) = true := by kernel_rfl
theorem cf10_12 : ((Rows.honoursChecksRow.named == Tryz.prog.varsNamed 10)) = true := by kernel_rfl
theorem cf10_13 : ((Rows.honoursChecksRow.maps == (Tryz.f10.params.toList ++ Rows.honoursChecksSpec.plain.varTypes Tryz.prog).any (Tryz.prog.mapsRec ·))) = true := by kernel_rfl
theorem cf10_14 : ((Rows.honoursChecksRow.ifaces == (Tryz.f10.params.toList ++ Rows.honoursChecksSpec.plain.varTypes Tryz.prog).any (Tryz.prog.ifacesRec ·))) = true := by kernel_rfl
theorem cf10_15 : ((Rows.honoursChecksRow.mapsOut == Tryz.prog.mapsAmong Tryz.f10.resultTypes.toList)) = true := by kernel_rfl
theorem cf10_16 : ((Rows.honoursChecksRow.loops == (Tryz.f10.params.toList ++ Rows.honoursChecksSpec.plain.varTypes Tryz.prog).any (Tryz.prog.loopsFrom ·))) = true := by kernel_rfl
theorem cf10_17 : ((Rows.honoursChecksRow.wideKeys == (Tryz.f10.params.toList ++ Rows.honoursChecksSpec.plain.varTypes Tryz.prog ++ Tryz.f10.resultTypes.toList).any (Tryz.prog.wideKeysFrom ·))) = true := by kernel_rfl
theorem cf10_18 : (Rows.honoursChecksSpec.vars.all (Tryz.prog.varReadable ·)) = true := by kernel_rfl
theorem cf10_19 : (Tryz.f10.resultTypes.all (fun t => Tryz.prog.readableRec t && decide (t < Tryz.prog.types.size))) = true := by kernel_rfl
theorem cf10_20 : ((Rows.honoursChecksRow.ifacesOut == Tryz.f10.resultTypes.toList.any (Tryz.prog.ifacesRec ·))) = true := by kernel_rfl
theorem cf10_21 : ((Rows.honoursChecksRow.loopsOut == Tryz.f10.resultTypes.toList.any (Tryz.prog.loopsFrom ·))) = true := by kernel_rfl
theorem cf10_23 : (Rows.honoursChecksRow.shortTexts.isNone) = true := by kernel_rfl
theorem cf10_28 : ((Rows.honoursChecksRow.kinds == (if Rows.honoursChecksRow.domain.isEmpty then [] else Tryz.f10.params.toList.map fun t => match Tryz.prog.underlying t with | some (.int k) => some k | _ => none))) = true := by kernel_rfl
theorem cf10_29 : ((Rows.honoursChecksRow.pinned == Rows.honoursChecksRow.pinnedBy)) = true := by kernel_rfl
theorem cf10_30 : ((Rows.honoursChecksRow.veiled == (Tryz.f10.params.toList ++ Rows.honoursChecksSpec.plain.varTypes Tryz.prog ++ Tryz.f10.resultTypes.toList).any (Tryz.prog.veiledRec ·))) = true := by kernel_rfl
theorem cf10_31 : (Rows.honoursChecksRow.veiledFits Tryz.prog Tryz.f10.params.toList (Tryz.f10.params.toList ++ Rows.honoursChecksSpec.plain.varTypes Tryz.prog ++ Tryz.f10.resultTypes.toList)) = true := by kernel_rfl
theorem facts10 : joinedFacts Tryz.prog 10 Tryz.f10 Rows.honoursChecksSpec Rows.honoursChecksRow = true := (band (band (band (band (band (band (band (band (band (band (band (band (band (band (band (band (band (band (band (band (band (band (band (band (band (band (band (band (band (band (band cf10_0 pf_laidOut) pf_mapsRowed) cf10_3) cf10_4) cf10_5) pf_stops) cf10_7) pf_stopKnobs) cf10_9) cf10_10) cf10_11) cf10_12) cf10_13) cf10_14) cf10_15) cf10_16) cf10_17) cf10_18) cf10_19) cf10_20) cf10_21) pf_plainKeys) cf10_23) pf_stopsHeard) pf_mayEnter) pf_lifts) pf_make) cf10_28) cf10_29) cf10_30) cf10_31)
theorem named10 : Tryz.pinned.checked.prog.funcNamed Rows.honoursChecksRow.func = some 10 := by kernel_rfl
theorem inst10 : Tryz.f10.isInstance Tryz.pinned.checked.prog Rows.honoursChecksRow.origin Rows.honoursChecksRow.targs := of_decide_eq_true (by kernel_rfl)
theorem wrap10 : Tryz.f10.isWrapper Tryz.pinned.checked.prog Rows.honoursChecksRow.wrapper Rows.honoursChecksRow.mainSum := by unfold Func.isWrapper; first | (rw [if_pos (by decide +kernel)]; kernel_rfl) | (rw [if_neg (by decide +kernel)]; exact ⟨rfl, rfl⟩)
theorem wfText10 : Rows.honoursChecksRow.wfByText (OpenSpec.ofChange Rows.honoursChecksSpec) = true := by kernel_rfl
theorem goes10 : false = Rows.honoursChecksRow.goesBy Tryz.pinned.checked.prog := by kernel_rfl
end Go.Proofs.YtdpfgjljehajbaaGreatDoor
