/- Closed facts of one row. -/
import Derived.Test.YtljjkomdibkjpaaGreatDoorJF
set_option linter.unusedVariables false
set_option linter.unusedSimpArgs false
/-! CF13 -/
set_option maxRecDepth 100000
set_option linter.unusedVariables false
namespace Go.Proofs.YtljjkomdibkjpaaGreatDoor
open Go Go.ChangeShapes Go.WideShapes Go.ChangeAt Go.RowKit
theorem cf13_0 : (Rows.rulesSameRow.wf (OpenSpec.ofChange Rows.rulesSameSpec)) = true := by kernel_rfl
theorem cf13_3 : (Tryz.f13.params.all (Tryz.prog.readableRec ·)) = true := by kernel_rfl
theorem cf13_4 : (namedTie Tryz.prog Rows.rulesSameRow.named Rows.rulesSameSpec.vars) = true := by kernel_rfl
theorem cf13_5 : ((Rows.rulesSameRow.stops == [])) = true := by kernel_rfl
theorem cf13_7 : ((Rows.rulesSameRow.knobs == [])) = true := by kernel_rfl
theorem cf13_9 : ((Rows.rulesSameRow.inPlace == Tryz.prog.inPlace 13)) = true := by kernel_rfl
theorem cf13_10 : ((Rows.rulesSameRow.unfollowed == Tryz.prog.unfollowed 13)) = true := by kernel_rfl
theorem cf13_11 : ((Rows.rulesSameRow.recurses == Tryz.prog.recurses 13)) = true := by kernel_rfl
theorem cf13_12 : ((Rows.rulesSameRow.named == Tryz.prog.varsNamed 13)) = true := by kernel_rfl
theorem cf13_13 : ((Rows.rulesSameRow.maps == (Tryz.f13.params.toList ++ Rows.rulesSameSpec.plain.varTypes Tryz.prog).any (Tryz.prog.mapsRec ·))) = true := by kernel_rfl
theorem cf13_14 : ((Rows.rulesSameRow.ifaces == (Tryz.f13.params.toList ++ Rows.rulesSameSpec.plain.varTypes Tryz.prog).any (Tryz.prog.ifacesRec ·))) = true := by kernel_rfl
theorem cf13_15 : ((Rows.rulesSameRow.mapsOut == Tryz.prog.mapsAmong Tryz.f13.resultTypes.toList)) = true := by kernel_rfl
theorem cf13_16 : ((Rows.rulesSameRow.loops == (Tryz.f13.params.toList ++ Rows.rulesSameSpec.plain.varTypes Tryz.prog).any (Tryz.prog.loopsFrom ·))) = true := by kernel_rfl
theorem cf13_17 : ((Rows.rulesSameRow.wideKeys == (Tryz.f13.params.toList ++ Rows.rulesSameSpec.plain.varTypes Tryz.prog ++ Tryz.f13.resultTypes.toList).any (Tryz.prog.wideKeysFrom ·))) = true := by kernel_rfl
theorem cf13_18 : (Rows.rulesSameSpec.vars.all (Tryz.prog.varReadable ·)) = true := by kernel_rfl
theorem cf13_19 : (Tryz.f13.resultTypes.all (fun t => Tryz.prog.readableRec t && decide (t < Tryz.prog.types.size))) = true := by kernel_rfl
theorem cf13_20 : ((Rows.rulesSameRow.ifacesOut == Tryz.f13.resultTypes.toList.any (Tryz.prog.ifacesRec ·))) = true := by kernel_rfl
theorem cf13_21 : ((Rows.rulesSameRow.loopsOut == Tryz.f13.resultTypes.toList.any (Tryz.prog.loopsFrom ·))) = true := by kernel_rfl
theorem cf13_23 : (Rows.rulesSameRow.shortTexts.isNone) = true := by kernel_rfl
theorem cf13_28 : ((Rows.rulesSameRow.kinds == (if Rows.rulesSameRow.domain.isEmpty then [] else Tryz.f13.params.toList.map fun t => match Tryz.prog.underlying t with | some (.int k) => some k | _ => none))) = true := by kernel_rfl
theorem cf13_29 : ((Rows.rulesSameRow.pinned == Rows.rulesSameRow.pinnedBy)) = true := by kernel_rfl
theorem cf13_30 : ((Rows.rulesSameRow.veiled == (Tryz.f13.params.toList ++ Rows.rulesSameSpec.plain.varTypes Tryz.prog ++ Tryz.f13.resultTypes.toList).any (Tryz.prog.veiledRec ·))) = true := by kernel_rfl
theorem cf13_31 : (Rows.rulesSameRow.veiledFits Tryz.prog Tryz.f13.params.toList (Tryz.f13.params.toList ++ Rows.rulesSameSpec.plain.varTypes Tryz.prog ++ Tryz.f13.resultTypes.toList)) = true := by kernel_rfl
theorem facts13 : joinedFacts Tryz.prog 13 Tryz.f13 Rows.rulesSameSpec Rows.rulesSameRow = true := (band (band (band (band (band (band (band (band (band (band (band (band (band (band (band (band (band (band (band (band (band (band (band (band (band (band (band (band (band (band (band cf13_0 pf_laidOut) pf_mapsRowed) cf13_3) cf13_4) cf13_5) pf_stops) cf13_7) pf_stopKnobs) cf13_9) cf13_10) cf13_11) cf13_12) cf13_13) cf13_14) cf13_15) cf13_16) cf13_17) cf13_18) cf13_19) cf13_20) cf13_21) pf_plainKeys) cf13_23) pf_stopsHeard) pf_mayEnter) pf_lifts) pf_make) cf13_28) cf13_29) cf13_30) cf13_31)
theorem named13 : Tryz.pinned.checked.prog.funcNamed Rows.rulesSameRow.func = some 13 := by kernel_rfl
theorem inst13 : Tryz.f13.isInstance Tryz.pinned.checked.prog Rows.rulesSameRow.origin Rows.rulesSameRow.targs := of_decide_eq_true (by kernel_rfl)
theorem wrap13 : Tryz.f13.isWrapper Tryz.pinned.checked.prog Rows.rulesSameRow.wrapper Rows.rulesSameRow.mainSum := by unfold Func.isWrapper; first | (rw [if_pos (by decide +kernel)]; kernel_rfl) | (rw [if_neg (by decide +kernel)]; exact ⟨rfl, rfl⟩)
theorem wfText13 : Rows.rulesSameRow.wfByText (OpenSpec.ofChange Rows.rulesSameSpec) = true := by kernel_rfl
theorem goes13 : false = Rows.rulesSameRow.goesBy Tryz.pinned.checked.prog := by kernel_rfl
end Go.Proofs.YtljjkomdibkjpaaGreatDoor
