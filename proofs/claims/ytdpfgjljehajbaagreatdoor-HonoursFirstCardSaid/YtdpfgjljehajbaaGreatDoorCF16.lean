/- Closed facts of one row. -/
import Derived.Test.YtdpfgjljehajbaaGreatDoorJF
set_option linter.unusedVariables false
set_option linter.unusedSimpArgs false
/-! CF16 -/
set_option maxRecDepth 100000
set_option linter.unusedVariables false
namespace Go.Proofs.YtdpfgjljehajbaaGreatDoor
open Go Go.ChangeShapes Go.WideShapes Go.ChangeAt Go.RowKit
theorem cf16_0 : (Rows.honoursFirstRow.wf (OpenSpec.ofChange Rows.honoursFirstSpec)) = true := by kernel_rfl
theorem cf16_3 : (Tryz.f16.params.all (Tryz.prog.readableRec ·)) = true := by kernel_rfl
theorem cf16_4 : (namedTie Tryz.prog Rows.honoursFirstRow.named Rows.honoursFirstSpec.vars) = true := by kernel_rfl
theorem cf16_5 : ((Rows.honoursFirstRow.stops == [])) = true := by kernel_rfl
theorem cf16_7 : ((Rows.honoursFirstRow.knobs == [])) = true := by kernel_rfl
theorem cf16_9 : ((Rows.honoursFirstRow.inPlace == Tryz.prog.inPlace 16)) = true := by kernel_rfl
theorem cf16_10 : ((Rows.honoursFirstRow.unfollowed == Tryz.prog.unfollowed 16)) = true := by kernel_rfl
theorem cf16_11 : ((Rows.honoursFirstRow.recurses == Tryz.prog.recurses 16)) = true := by kernel_rfl
theorem cf16_12 : ((Rows.honoursFirstRow.named == Tryz.prog.varsNamed 16)) = true := by kernel_rfl
theorem cf16_13 : ((Rows.honoursFirstRow.maps == (Tryz.f16.params.toList ++ Rows.honoursFirstSpec.plain.varTypes Tryz.prog).any (Tryz.prog.mapsRec ·))) = true := by kernel_rfl
theorem cf16_14 : ((Rows.honoursFirstRow.ifaces == (Tryz.f16.params.toList ++ Rows.honoursFirstSpec.plain.varTypes Tryz.prog).any (Tryz.prog.ifacesRec ·))) = true := by kernel_rfl
theorem cf16_15 : ((Rows.honoursFirstRow.mapsOut == Tryz.prog.mapsAmong Tryz.f16.resultTypes.toList)) = true := by kernel_rfl
theorem cf16_16 : ((Rows.honoursFirstRow.loops == (Tryz.f16.params.toList ++ Rows.honoursFirstSpec.plain.varTypes Tryz.prog).any (Tryz.prog.loopsFrom ·))) = true := by kernel_rfl
theorem cf16_17 : ((Rows.honoursFirstRow.wideKeys == (Tryz.f16.params.toList ++ Rows.honoursFirstSpec.plain.varTypes Tryz.prog ++ Tryz.f16.resultTypes.toList).any (Tryz.prog.wideKeysFrom ·))) = true := by kernel_rfl
theorem cf16_18 : (Rows.honoursFirstSpec.vars.all (Tryz.prog.varReadable ·)) = true := by kernel_rfl
theorem cf16_19 : (Tryz.f16.resultTypes.all (fun t => Tryz.prog.readableRec t && decide (t < Tryz.prog.types.size))) = true := by kernel_rfl
theorem cf16_20 : ((Rows.honoursFirstRow.ifacesOut == Tryz.f16.resultTypes.toList.any (Tryz.prog.ifacesRec ·))) = true := by kernel_rfl
theorem cf16_21 : ((Rows.honoursFirstRow.loopsOut == Tryz.f16.resultTypes.toList.any (Tryz.prog.loopsFrom ·))) = true := by kernel_rfl
theorem cf16_23 : (Rows.honoursFirstRow.shortTexts.isNone) = true := by kernel_rfl
theorem cf16_28 : ((Rows.honoursFirstRow.kinds == (if Rows.honoursFirstRow.domain.isEmpty then [] else Tryz.f16.params.toList.map fun t => match Tryz.prog.underlying t with | some (.int k) => some k | _ => none))) = true := by kernel_rfl
theorem cf16_29 : ((Rows.honoursFirstRow.pinned == Rows.honoursFirstRow.pinnedBy)) = true := by kernel_rfl
theorem cf16_30 : ((Rows.honoursFirstRow.veiled == (Tryz.f16.params.toList ++ Rows.honoursFirstSpec.plain.varTypes Tryz.prog ++ Tryz.f16.resultTypes.toList).any (Tryz.prog.veiledRec ·))) = true := by kernel_rfl
theorem cf16_31 : (Rows.honoursFirstRow.veiledFits Tryz.prog Tryz.f16.params.toList (Tryz.f16.params.toList ++ Rows.honoursFirstSpec.plain.varTypes Tryz.prog ++ Tryz.f16.resultTypes.toList)) = true := by kernel_rfl
theorem facts16 : joinedFacts Tryz.prog 16 Tryz.f16 Rows.honoursFirstSpec Rows.honoursFirstRow = true := (band (band (band (band (band (band (band (band (band (band (band (band (band (band (band (band (band (band (band (band (band (band (band (band (band (band (band (band (band (band (band cf16_0 pf_laidOut) pf_mapsRowed) cf16_3) cf16_4) cf16_5) pf_stops) cf16_7) pf_stopKnobs) cf16_9) cf16_10) cf16_11) cf16_12) cf16_13) cf16_14) cf16_15) cf16_16) cf16_17) cf16_18) cf16_19) cf16_20) cf16_21) pf_plainKeys) cf16_23) pf_stopsHeard) pf_mayEnter) pf_lifts) pf_make) cf16_28) cf16_29) cf16_30) cf16_31)
theorem named16 : Tryz.pinned.checked.prog.funcNamed Rows.honoursFirstRow.func = some 16 := by kernel_rfl
theorem inst16 : Tryz.f16.isInstance Tryz.pinned.checked.prog Rows.honoursFirstRow.origin Rows.honoursFirstRow.targs := of_decide_eq_true (by kernel_rfl)
theorem wrap16 : Tryz.f16.isWrapper Tryz.pinned.checked.prog Rows.honoursFirstRow.wrapper Rows.honoursFirstRow.mainSum := by unfold Func.isWrapper; first | (rw [if_pos (by decide +kernel)]; kernel_rfl) | (rw [if_neg (by decide +kernel)]; exact ⟨rfl, rfl⟩)
theorem wfText16 : Rows.honoursFirstRow.wfByText (OpenSpec.ofChange Rows.honoursFirstSpec) = true := by kernel_rfl
theorem goes16 : false = Rows.honoursFirstRow.goesBy Tryz.pinned.checked.prog := by kernel_rfl
end Go.Proofs.YtdpfgjljehajbaaGreatDoor
