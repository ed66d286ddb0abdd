/- Closed facts of one row. -/
import Derived.Test.YtdpfgjljehajbaaGreatDoorJF
set_option linter.unusedVariables false
set_option linter.unusedSimpArgs false
/-! CF6 -/
set_option maxRecDepth 100000
set_option linter.unusedVariables false
namespace Go.Proofs.YtdpfgjljehajbaaGreatDoor
open Go Go.ChangeShapes Go.WideShapes Go.ChangeAt Go.RowKit
theorem cf6_0 : (Rows.honoursGunsRow.wf (OpenSpec.ofChange Rows.honoursGunsSpec)) = true := by kernel_rfl
theorem cf6_3 : (Tryz.f6.params.all (Tryz.prog.readableRec ·)) = true := by kernel_rfl
theorem cf6_4 : (namedTie Tryz.prog Rows.honoursGunsRow.named Rows.honoursGunsSpec.vars) = true := by kernel_rfl
theorem cf6_5 : ((Rows.honoursGunsRow.stops == [])) = true := by kernel_rfl
theorem cf6_7 : ((Rows.honoursGunsRow.knobs == [])) = true := by kernel_rfl
theorem cf6_9 : ((Rows.honoursGunsRow.inPlace == Tryz.prog.inPlace 6)) = true := by kernel_rfl
theorem cf6_10 : ((Rows.honoursGunsRow.unfollowed == Tryz.prog.unfollowed 6)) = true := by kernel_rfl
theorem cf6_11 : ((Rows.honoursGunsRow.recurses == Tryz.prog.recurses 6)) = true := by kernel_rfl
theorem cf6_12 : ((Rows.honoursGunsRow.named == Tryz.prog.varsNamed 6)) = true := by kernel_rfl
theorem cf6_13 : ((Rows.honoursGunsRow.maps == (Tryz.f6.params.toList ++ Rows.honoursGunsSpec.plain.varTypes Tryz.prog).any (Tryz.prog.mapsRec ·))) = true := by kernel_rfl
theorem cf6_14 : ((Rows.honoursGunsRow.ifaces == (Tryz.f6.params.toList ++ Rows.honoursGunsSpec.plain.varTypes Tryz.prog).any (Tryz.prog.ifacesRec ·))) = true := by kernel_rfl
theorem cf6_15 : ((Rows.honoursGunsRow.mapsOut == Tryz.prog.mapsAmong Tryz.f6.resultTypes.toList)) = true := by kernel_rfl
theorem cf6_16 : ((Rows.honoursGunsRow.loops == (Tryz.f6.params.toList ++ Rows.honoursGunsSpec.plain.varTypes Tryz.prog).any (Tryz.prog.loopsFrom ·))) = true := by kernel_rfl
theorem cf6_17 : ((Rows.honoursGunsRow.wideKeys == (Tryz.f6.params.toList ++ Rows.honoursGunsSpec.plain.varTypes Tryz.prog ++ Tryz.f6.resultTypes.toList).any (Tryz.prog.wideKeysFrom ·))) = true := by kernel_rfl
theorem cf6_18 : (Rows.honoursGunsSpec.vars.all (Tryz.prog.varReadable ·)) = true := by kernel_rfl
theorem cf6_19 : (Tryz.f6.resultTypes.all (fun t => Tryz.prog.readableRec t && decide (t < Tryz.prog.types.size))) = true := by kernel_rfl
theorem cf6_20 : ((Rows.honoursGunsRow.ifacesOut == Tryz.f6.resultTypes.toList.any (Tryz.prog.ifacesRec ·))) = true := by kernel_rfl
theorem cf6_21 : ((Rows.honoursGunsRow.loopsOut == Tryz.f6.resultTypes.toList.any (Tryz.prog.loopsFrom ·))) = true := by kernel_rfl
theorem cf6_23 : (Rows.honoursGunsRow.shortTexts.isNone) = true := by kernel_rfl
theorem cf6_28 : ((Rows.honoursGunsRow.kinds == (if Rows.honoursGunsRow.domain.isEmpty then [] else Tryz.f6.params.toList.map fun t => match Tryz.prog.underlying t with | some (.int k) => some k | _ => none))) = true := by kernel_rfl
theorem cf6_29 : ((Rows.honoursGunsRow.pinned == Rows.honoursGunsRow.pinnedBy)) = true := by kernel_rfl
theorem cf6_30 : ((Rows.honoursGunsRow.veiled == (Tryz.f6.params.toList ++ Rows.honoursGunsSpec.plain.varTypes Tryz.prog ++ Tryz.f6.resultTypes.toList).any (Tryz.prog.veiledRec ·))) = true := by kernel_rfl
theorem cf6_31 : (Rows.honoursGunsRow.veiledFits Tryz.prog Tryz.f6.params.toList (Tryz.f6.params.toList ++ Rows.honoursGunsSpec.plain.varTypes Tryz.prog ++ Tryz.f6.resultTypes.toList)) = true := by kernel_rfl
theorem facts6 : joinedFacts Tryz.prog 6 Tryz.f6 Rows.honoursGunsSpec Rows.honoursGunsRow = true := (band (band (band (band (band (band (band (band (band (band (band (band (band (band (band (band (band (band (band (band (band (band (band (band (band (band (band (band (band (band (band cf6_0 pf_laidOut) pf_mapsRowed) cf6_3) cf6_4) cf6_5) pf_stops) cf6_7) pf_stopKnobs) cf6_9) cf6_10) cf6_11) cf6_12) cf6_13) cf6_14) cf6_15) cf6_16) cf6_17) cf6_18) cf6_19) cf6_20) cf6_21) pf_plainKeys) cf6_23) pf_stopsHeard) pf_mayEnter) pf_lifts) pf_make) cf6_28) cf6_29) cf6_30) cf6_31)
theorem named6 : Tryz.pinned.checked.prog.funcNamed Rows.honoursGunsRow.func = some 6 := by kernel_rfl
theorem inst6 : Tryz.f6.isInstance Tryz.pinned.checked.prog Rows.honoursGunsRow.origin Rows.honoursGunsRow.targs := of_decide_eq_true (by kernel_rfl)
theorem wrap6 : Tryz.f6.isWrapper Tryz.pinned.checked.prog Rows.honoursGunsRow.wrapper Rows.honoursGunsRow.mainSum := by unfold Func.isWrapper; first | (rw [if_pos (by decide +kernel)]; kernel_rfl) | (rw [if_neg (by decide +kernel)]; exact ⟨rfl, rfl⟩)
theorem wfText6 : Rows.honoursGunsRow.wfByText (OpenSpec.ofChange Rows.honoursGunsSpec) = true := by kernel_rfl
theorem goes6 : false = Rows.honoursGunsRow.goesBy Tryz.pinned.checked.prog := by kernel_rfl
end Go.Proofs.YtdpfgjljehajbaaGreatDoor
