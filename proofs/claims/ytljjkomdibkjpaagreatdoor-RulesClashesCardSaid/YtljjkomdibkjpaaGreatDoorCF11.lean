/- Closed facts of one row. -/
import Derived.Test.YtljjkomdibkjpaaGreatDoorJF
set_option linter.unusedVariables false
set_option linter.unusedSimpArgs false
/-! CF11 -/
set_option maxRecDepth 100000
set_option linter.unusedVariables false
namespace Go.Proofs.YtljjkomdibkjpaaGreatDoor
open Go Go.ChangeShapes Go.WideShapes Go.ChangeAt Go.RowKit
theorem cf11_0 : (Rows.rulesClashesRow.wf (OpenSpec.ofChange Rows.rulesClashesSpec)) = true := by kernel_rfl
theorem cf11_3 : (Tryz.f11.params.all (Tryz.prog.readableRec ·)) = true := by kernel_rfl
theorem cf11_4 : (namedTie Tryz.prog Rows.rulesClashesRow.named Rows.rulesClashesSpec.vars) = true := by kernel_rfl
theorem cf11_5 : ((Rows.rulesClashesRow.stops == [])) = true := by kernel_rfl
theorem cf11_7 : ((Rows.rulesClashesRow.knobs == [])) = true := by kernel_rfl
theorem cf11_9 : ((Rows.rulesClashesRow.inPlace == Tryz.prog.inPlace 11)) = true := by kernel_rfl
theorem cf11_10 : ((Rows.rulesClashesRow.unfollowed == Tryz.prog.unfollowed 11)) = true := by kernel_rfl
theorem cf11_11 : ((Rows.rulesClashesRow.recurses == Tryz.prog.recurses 11)) = true := by kernel_rfl
theorem cf11_12 : ((Rows.rulesClashesRow.named == Tryz.prog.varsNamed 11)) = true := by kernel_rfl
theorem cf11_13 : ((Rows.rulesClashesRow.maps == (Tryz.f11.params.toList ++ Rows.rulesClashesSpec.plain.varTypes Tryz.prog).any (Tryz.prog.mapsRec ·))) = true := by kernel_rfl
theorem cf11_14 : ((Rows.rulesClashesRow.ifaces == (Tryz.f11.params.toList ++ Rows.rulesClashesSpec.plain.varTypes Tryz.prog).any (Tryz.prog.ifacesRec ·))) = true := by kernel_rfl
theorem cf11_15 : ((Rows.rulesClashesRow.mapsOut == Tryz.prog.mapsAmong Tryz.f11.resultTypes.toList)) = true := by kernel_rfl
theorem cf11_16 : ((Rows.rulesClashesRow.loops == (Tryz.f11.params.toList ++ Rows.rulesClashesSpec.plain.varTypes Tryz.prog).any (Tryz.prog.loopsFrom ·))) = true := by kernel_rfl
theorem cf11_17 : ((Rows.rulesClashesRow.wideKeys == (Tryz.f11.params.toList ++ Rows.rulesClashesSpec.plain.varTypes Tryz.prog ++ Tryz.f11.resultTypes.toList).any (Tryz.prog.wideKeysFrom ·))) = true := by kernel_rfl
theorem cf11_18 : (Rows.rulesClashesSpec.vars.all (Tryz.prog.varReadable ·)) = true := by kernel_rfl
theorem cf11_19 : (Tryz.f11.resultTypes.all (fun t => Tryz.prog.readableRec t && decide (t < Tryz.prog.types.size))) = true := by kernel_rfl
theorem cf11_20 : ((Rows.rulesClashesRow.ifacesOut == Tryz.f11.resultTypes.toList.any (Tryz.prog.ifacesRec ·))) = true := by kernel_rfl
theorem cf11_21 : ((Rows.rulesClashesRow.loopsOut == Tryz.f11.resultTypes.toList.any (Tryz.prog.loopsFrom ·))) = true := by kernel_rfl
theorem cf11_23 : (Rows.rulesClashesRow.shortTexts.isNone) = true := by kernel_rfl
theorem cf11_28 : ((Rows.rulesClashesRow.kinds == (if Rows.rulesClashesRow.domain.isEmpty then [] else Tryz.f11.params.toList.map fun t => match Tryz.prog.underlying t with | some (.int k) => some k | _ => none))) = true := by kernel_rfl
theorem cf11_29 : ((Rows.rulesClashesRow.pinned == Rows.rulesClashesRow.pinnedBy)) = true := by kernel_rfl
theorem cf11_30 : ((Rows.rulesClashesRow.veiled == (Tryz.f11.params.toList ++ Rows.rulesClashesSpec.plain.varTypes Tryz.prog ++ Tryz.f11.resultTypes.toList).any (Tryz.prog.veiledRec ·))) = true := by kernel_rfl
theorem cf11_31 : (Rows.rulesClashesRow.veiledFits Tryz.prog Tryz.f11.params.toList (Tryz.f11.params.toList ++ Rows.rulesClashesSpec.plain.varTypes Tryz.prog ++ Tryz.f11.resultTypes.toList)) = true := by kernel_rfl
theorem facts11 : joinedFacts Tryz.prog 11 Tryz.f11 Rows.rulesClashesSpec Rows.rulesClashesRow = true := (band (band (band (band (band (band (band (band (band (band (band (band (band (band (band (band (band (band (band (band (band (band (band (band (band (band (band (band (band (band (band cf11_0 pf_laidOut) pf_mapsRowed) cf11_3) cf11_4) cf11_5) pf_stops) cf11_7) pf_stopKnobs) cf11_9) cf11_10) cf11_11) cf11_12) cf11_13) cf11_14) cf11_15) cf11_16) cf11_17) cf11_18) cf11_19) cf11_20) cf11_21) pf_plainKeys) cf11_23) pf_stopsHeard) pf_mayEnter) pf_lifts) pf_make) cf11_28) cf11_29) cf11_30) cf11_31)
theorem named11 : Tryz.pinned.checked.prog.funcNamed Rows.rulesClashesRow.func = some 11 := by kernel_rfl
theorem inst11 : Tryz.f11.isInstance Tryz.pinned.checked.prog Rows.rulesClashesRow.origin Rows.rulesClashesRow.targs := of_decide_eq_true (by kernel_rfl)
theorem wrap11 : Tryz.f11.isWrapper Tryz.pinned.checked.prog Rows.rulesClashesRow.wrapper Rows.rulesClashesRow.mainSum := by unfold Func.isWrapper; first | (rw [if_pos (by decide +kernel)]; kernel_rfl) | (rw [if_neg (by decide +kernel)]; exact ⟨rfl, rfl⟩)
theorem wfText11 : Rows.rulesClashesRow.wfByText (OpenSpec.ofChange Rows.rulesClashesSpec) = true := by kernel_rfl
theorem goes11 : false = Rows.rulesClashesRow.goesBy Tryz.pinned.checked.prog := by kernel_rfl
end Go.Proofs.YtljjkomdibkjpaaGreatDoor
