/- Closed facts of one row. -/
import Derived.Test.YtljjkomdibkjpaaGreatDoorJF
set_option linter.unusedVariables false
set_option linter.unusedSimpArgs false
set_option maxRecDepth 100000
set_option linter.unusedVariables false
namespace Go.Proofs.YtljjkomdibkjpaaGreatDoor
open Go Go.ChangeShapes Go.WideShapes Go.ChangeAt Go.RowKit
theorem v5u:(Rows.rulesPrunedRow.wf (OpenSpec.ofChange Rows.rulesPrunedSpec)) = true:=by kernel_rfl
theorem v5t:(Tryz.f16.params.all (Tryz.prog.readableRec ·)) = true:=by kernel_rfl
theorem v5s:(namedTie Tryz.prog Rows.rulesPrunedRow.named Rows.rulesPrunedSpec.vars) = true:=by kernel_rfl
theorem v5r:((Rows.rulesPrunedRow.stops == [])) = true:=by kernel_rfl
theorem v5q:((Rows.rulesPrunedRow.knobs == [])) = true:=by kernel_rfl
theorem v5p:((Rows.rulesPrunedRow.inPlace == Tryz.prog.inPlace 16)) = true:=by kernel_rfl
theorem v2t:((Rows.rulesPrunedRow.unfollowed == Tryz.prog.unfollowed 16)) = true:=by kernel_rfl
theorem v2s:((Rows.rulesPrunedRow.recurses == Tryz.prog.recurses 16)) = true:=by kernel_rfl
theorem v2r:((Rows.rulesPrunedRow.named == Tryz.prog.varsNamed 16)) = true:=by kernel_rfl
theorem v2q:((Rows.rulesPrunedRow.maps == (Tryz.f16.params.toList++Rows.rulesPrunedSpec.plain.varTypes Tryz.prog).any (Tryz.prog.mapsRec ·))) = true:=by kernel_rfl
theorem v2p:((Rows.rulesPrunedRow.ifaces == (Tryz.f16.params.toList++Rows.rulesPrunedSpec.plain.varTypes Tryz.prog).any (Tryz.prog.ifacesRec ·))) = true:=by kernel_rfl
theorem v2o:((Rows.rulesPrunedRow.mapsOut == Tryz.prog.mapsAmong Tryz.f16.resultTypes.toList)) = true:=by kernel_rfl
theorem v2n:((Rows.rulesPrunedRow.loops == (Tryz.f16.params.toList++Rows.rulesPrunedSpec.plain.varTypes Tryz.prog).any (Tryz.prog.loopsFrom ·))) = true:=by kernel_rfl
theorem v2m:((Rows.rulesPrunedRow.wideKeys == (Tryz.f16.params.toList++Rows.rulesPrunedSpec.plain.varTypes Tryz.prog++Tryz.f16.resultTypes.toList).any (Tryz.prog.wideKeysFrom ·))) = true:=by kernel_rfl
theorem v2l:(Rows.rulesPrunedSpec.vars.all (Tryz.prog.varReadable ·)) = true:=by kernel_rfl
theorem v2k:(Tryz.f16.resultTypes.all (fun t=>Tryz.prog.readableRec t && decide (t < Tryz.prog.types.size))) = true:=by kernel_rfl
theorem v2j:((Rows.rulesPrunedRow.ifacesOut == Tryz.f16.resultTypes.toList.any (Tryz.prog.ifacesRec ·))) = true:=by kernel_rfl
theorem v2i:((Rows.rulesPrunedRow.loopsOut == Tryz.f16.resultTypes.toList.any (Tryz.prog.loopsFrom ·))) = true:=by kernel_rfl
theorem v2h:(Rows.rulesPrunedRow.shortTexts.isNone) = true:=by kernel_rfl
theorem v2g:((Rows.rulesPrunedRow.kinds == (if Rows.rulesPrunedRow.domain.isEmpty then [] else Tryz.f16.params.toList.map fun t=>match Tryz.prog.underlying t with | some (.int k)=>some k | _=>none))) = true:=by kernel_rfl
theorem v2f:((Rows.rulesPrunedRow.pinned == Rows.rulesPrunedRow.pinnedBy)) = true:=by kernel_rfl
theorem v2e:((Rows.rulesPrunedRow.veiled == (Tryz.f16.params.toList++Rows.rulesPrunedSpec.plain.varTypes Tryz.prog++Tryz.f16.resultTypes.toList).any (Tryz.prog.veiledRec ·))) = true:=by kernel_rfl
theorem v2d:(Rows.rulesPrunedRow.veiledFits Tryz.prog Tryz.f16.params.toList (Tryz.f16.params.toList++Rows.rulesPrunedSpec.plain.varTypes Tryz.prog++Tryz.f16.resultTypes.toList)) = true:=by kernel_rfl
theorem v2a:joinedFacts Tryz.prog 16 Tryz.f16 Rows.rulesPrunedSpec Rows.rulesPrunedRow = true:=(z2t (z2t (z2t (z2t (z2t (z2t (z2t (z2t (z2t (z2t (z2t (z2t (z2t (z2t (z2t (z2t (z2t (z2t (z2t (z2t (z2t (z2t (z2t (z2t (z2t (z2t (z2t (z2t (z2t (z2t (z2t v5u x17) y9k) v5t) v5s) v5r) x5x) v5q) y9i) v5p) v2t) v2s) v2r) v2q) v2p) v2o) v2n) v2m) v2l) v2k) v2j) v2i) y9j) v2h) y8b) x0y) x5z) x8m) v2g) v2f) v2e) v2d)
theorem named16:Tryz.pinned.checked.prog.funcNamed Rows.rulesPrunedRow.func = some 16:=by kernel_rfl
theorem v5e:Tryz.f16.isInstance Tryz.pinned.checked.prog Rows.rulesPrunedRow.origin Rows.rulesPrunedRow.targs:=of_decide_eq_true (by kernel_rfl)
theorem v4c:Tryz.f16.isWrapper Tryz.pinned.checked.prog Rows.rulesPrunedRow.wrapper Rows.rulesPrunedRow.mainSum:=by unfold Func.isWrapper; first | (rw [if_pos (by decide +kernel)]; kernel_rfl) | (rw [if_neg (by decide +kernel)]; exact ⟨rfl,rfl⟩)
theorem w95:Rows.rulesPrunedRow.wfByText (OpenSpec.ofChange Rows.rulesPrunedSpec) = true:=by kernel_rfl
theorem v5h:false = Rows.rulesPrunedRow.goesBy Tryz.pinned.checked.prog:=by kernel_rfl
end Go.Proofs.YtljjkomdibkjpaaGreatDoor
