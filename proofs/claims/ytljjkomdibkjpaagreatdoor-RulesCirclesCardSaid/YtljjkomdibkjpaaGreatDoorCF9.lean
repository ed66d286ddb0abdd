/- Closed facts of one row. -/
import Derived.Test.YtljjkomdibkjpaaGreatDoorJF
set_option linter.unusedVariables false
set_option linter.unusedSimpArgs false
/-! CF9 -/
set_option maxRecDepth 100000
set_option linter.unusedVariables false
namespace Go.Proofs.YtljjkomdibkjpaaGreatDoor
open Go Go.ChangeShapes Go.WideShapes Go.ChangeAt Go.RowKit
theorem cf9_0 : (Rows.rulesCirclesRow.wf (OpenSpec.ofChange Rows.rulesCirclesSpec)) = true := by kernel_rfl
theorem cf9_3 : (Tryz.f9.params.all (Tryz.prog.readableRec ·)) = true := by kernel_rfl
theorem cf9_4 : (namedTie Tryz.prog Rows.rulesCirclesRow.named Rows.rulesCirclesSpec.vars) = true := by kernel_rfl
theorem cf9_5 : ((Rows.rulesCirclesRow.stops == [])) = true := by kernel_rfl
theorem cf9_7 : ((Rows.rulesCirclesRow.knobs == [])) = true := by kernel_rfl
theorem cf9_9 : ((Rows.rulesCirclesRow.inPlace == Tryz.prog.inPlace 9)) = true := by kernel_rfl
theorem cf9_10 : ((Rows.rulesCirclesRow.unfollowed == Tryz.prog.unfollowed 9)) = true := by kernel_rfl
theorem cf9_11 : ((Rows.rulesCirclesRow.recurses == Tryz.prog.recurses 9)) = true := by kernel_rfl
theorem cf9_12 : ((Rows.rulesCirclesRow.named == Tryz.prog.varsNamed 9)) = true := by kernel_rfl
theorem cf9_13 : ((Rows.rulesCirclesRow.maps == (Tryz.f9.params.toList ++ Rows.rulesCirclesSpec.plain.varTypes Tryz.prog).any (Tryz.prog.mapsRec ·))) = true := by kernel_rfl
theorem cf9_14 : ((Rows.rulesCirclesRow.ifaces == (Tryz.f9.params.toList ++ Rows.rulesCirclesSpec.plain.varTypes Tryz.prog).any (Tryz.prog.ifacesRec ·))) = true := by kernel_rfl
theorem cf9_15 : ((Rows.rulesCirclesRow.mapsOut == Tryz.prog.mapsAmong Tryz.f9.resultTypes.toList)) = true := by kernel_rfl
theorem cf9_16 : ((Rows.rulesCirclesRow.loops == (Tryz.f9.params.toList ++ Rows.rulesCirclesSpec.plain.varTypes Tryz.prog).any (Tryz.prog.loopsFrom ·))) = true := by kernel_rfl
theorem cf9_17 : ((Rows.rulesCirclesRow.wideKeys == (Tryz.f9.params.toList ++ Rows.rulesCirclesSpec.plain.varTypes Tryz.prog ++ Tryz.f9.resultTypes.toList).any (Tryz.prog.wideKeysFrom ·))) = true := by kernel_rfl
theorem cf9_18 : (Rows.rulesCirclesSpec.vars.all (Tryz.prog.varReadable ·)) = true := by kernel_rfl
theorem cf9_19 : (Tryz.f9.resultTypes.all (fun t => Tryz.prog.readableRec t && decide (t < Tryz.prog.types.size))) = true := by kernel_rfl
theorem cf9_20 : ((Rows.rulesCirclesRow.ifacesOut == Tryz.f9.resultTypes.toList.any (Tryz.prog.ifacesRec ·))) = true := by kernel_rfl
theorem cf9_21 : ((Rows.rulesCirclesRow.loopsOut == Tryz.f9.resultTypes.toList.any (Tryz.prog.loopsFrom ·))) = true := by kernel_rfl
theorem cf9_23 : (Rows.rulesCirclesRow.shortTexts.isNone) = true := by kernel_rfl
theorem cf9_28 : ((Rows.rulesCirclesRow.kinds == (if Rows.rulesCirclesRow.domain.isEmpty then [] else Tryz.f9.params.toList.map fun t => match Tryz.prog.underlying t with | some (.int k) => some k | _ => none))) = true := by kernel_rfl
theorem cf9_29 : ((Rows.rulesCirclesRow.pinned == Rows.rulesCirclesRow.pinnedBy)) = true := by kernel_rfl
theorem cf9_30 : ((Rows.rulesCirclesRow.veiled == (Tryz.f9.params.toList ++ Rows.rulesCirclesSpec.plain.varTypes Tryz.prog ++ Tryz.f9.resultTypes.toList).any (Tryz.prog.veiledRec ·))) = true := by kernel_rfl
theorem cf9_31 : (Rows.rulesCirclesRow.veiledFits Tryz.prog Tryz.f9.params.toList (Tryz.f9.params.toList ++ Rows.rulesCirclesSpec.plain.varTypes Tryz.prog ++ Tryz.f9.resultTypes.toList)) = true := by kernel_rfl
theorem facts9 : joinedFacts Tryz.prog 9 Tryz.f9 Rows.rulesCirclesSpec Rows.rulesCirclesRow = true := (band (band (band (band (band (band (band (band (band (band (band (band (band (band (band (band (band (band (band (band (band (band (band (band (band (band (band (band (band (band (band cf9_0 pf_laidOut) pf_mapsRowed) cf9_3) cf9_4) cf9_5) pf_stops) cf9_7) pf_stopKnobs) cf9_9) cf9_10) cf9_11) cf9_12) cf9_13) cf9_14) cf9_15) cf9_16) cf9_17) cf9_18) cf9_19) cf9_20) cf9_21) pf_plainKeys) cf9_23) pf_stopsHeard) pf_mayEnter) pf_lifts) pf_make) cf9_28) cf9_29) cf9_30) cf9_31)
theorem named9 : Tryz.pinned.checked.prog.funcNamed Rows.rulesCirclesRow.func = some 9 := by kernel_rfl
theorem inst9 : Tryz.f9.isInstance Tryz.pinned.checked.prog Rows.rulesCirclesRow.origin Rows.rulesCirclesRow.targs := of_decide_eq_true (by kernel_rfl)
theorem wrap9 : Tryz.f9.isWrapper Tryz.pinned.checked.prog Rows.rulesCirclesRow.wrapper Rows.rulesCirclesRow.mainSum := by unfold Func.isWrapper; first | (rw [if_pos (by decide +kernel)]; kernel_rfl) | (rw [if_neg (by decide +kernel)]; exact ⟨rfl, rfl⟩)
theorem wfText9 : Rows.rulesCirclesRow.wfByText (OpenSpec.ofChange Rows.rulesCirclesSpec) = true := by kernel_rfl
theorem goes9 : false = Rows.rulesCirclesRow.goesBy Tryz.pinned.checked.prog := by kernel_rfl
end Go.Proofs.YtljjkomdibkjpaaGreatDoor
