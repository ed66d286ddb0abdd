/- Closed facts of one row. -/
import Derived.Test.YtljjkomdibkjpaaGreatDoorJF
set_option linter.unusedVariables false
set_option linter.unusedSimpArgs false
set_option maxRecDepth 100000
set_option linter.unusedVariables false
namespace Go.Proofs.YtljjkomdibkjpaaGreatDoor
open Go Go.ChangeShapes Go.WideShapes Go.ChangeAt Go.RowKit
theorem v6b:(Rows.rulesDeadRow.wf (OpenSpec.ofChange Rows.rulesDeadSpec)) = true:=by kernel_rfl
theorem v5z:(Tryz.f15.params.all (Tryz.prog.readableRec ·)) = true:=by kernel_rfl
theorem v5y:(namedTie Tryz.prog Rows.rulesDeadRow.named Rows.rulesDeadSpec.vars) = true:=by kernel_rfl
theorem v5x:((Rows.rulesDeadRow.stops == [])) = true:=by kernel_rfl
theorem v5w:((Rows.rulesDeadRow.knobs == [])) = true:=by kernel_rfl
theorem v5v:((Rows.rulesDeadRow.inPlace == Tryz.prog.inPlace 15)) = true:=by kernel_rfl
theorem v3k:((Rows.rulesDeadRow.unfollowed == Tryz.prog.unfollowed 15)) = true:=by kernel_rfl
theorem v3j:((Rows.rulesDeadRow.recurses == Tryz.prog.recurses 15)) = true:=by kernel_rfl
theorem v3i:((Rows.rulesDeadRow.named == Tryz.prog.varsNamed 15)) = true:=by kernel_rfl
theorem v3h:((Rows.rulesDeadRow.maps == (Tryz.f15.params.toList++Rows.rulesDeadSpec.plain.varTypes Tryz.prog).any (Tryz.prog.mapsRec ·))) = true:=by kernel_rfl
theorem v3g:((Rows.rulesDeadRow.ifaces == (Tryz.f15.params.toList++Rows.rulesDeadSpec.plain.varTypes Tryz.prog).any (Tryz.prog.ifacesRec ·))) = true:=by kernel_rfl
theorem v3f:((Rows.rulesDeadRow.mapsOut == Tryz.prog.mapsAmong Tryz.f15.resultTypes.toList)) = true:=by kernel_rfl
theorem v3e:((Rows.rulesDeadRow.loops == (Tryz.f15.params.toList++Rows.rulesDeadSpec.plain.varTypes Tryz.prog).any (Tryz.prog.loopsFrom ·))) = true:=by kernel_rfl
theorem v3d:((Rows.rulesDeadRow.wideKeys == (Tryz.f15.params.toList++Rows.rulesDeadSpec.plain.varTypes Tryz.prog++Tryz.f15.resultTypes.toList).any (Tryz.prog.wideKeysFrom ·))) = true:=by kernel_rfl
theorem v3c:(Rows.rulesDeadSpec.vars.all (Tryz.prog.varReadable ·)) = true:=by kernel_rfl
theorem v3b:(Tryz.f15.resultTypes.all (fun t=>Tryz.prog.readableRec t && decide (t < Tryz.prog.types.size))) = true:=by kernel_rfl
theorem v3a:((Rows.rulesDeadRow.ifacesOut == Tryz.f15.resultTypes.toList.any (Tryz.prog.ifacesRec ·))) = true:=by kernel_rfl
theorem v2z:((Rows.rulesDeadRow.loopsOut == Tryz.f15.resultTypes.toList.any (Tryz.prog.loopsFrom ·))) = true:=by kernel_rfl
theorem v2y:(Rows.rulesDeadRow.shortTexts.isNone) = true:=by kernel_rfl
theorem v2x:((Rows.rulesDeadRow.kinds == (if Rows.rulesDeadRow.domain.isEmpty then [] else Tryz.f15.params.toList.map fun t=>match Tryz.prog.underlying t with | some (.int k)=>some k | _=>none))) = true:=by kernel_rfl
theorem v2w:((Rows.rulesDeadRow.pinned == Rows.rulesDeadRow.pinnedBy)) = true:=by kernel_rfl
theorem v2v:((Rows.rulesDeadRow.veiled == (Tryz.f15.params.toList++Rows.rulesDeadSpec.plain.varTypes Tryz.prog++Tryz.f15.resultTypes.toList).any (Tryz.prog.veiledRec ·))) = true:=by kernel_rfl
theorem v2u:(Rows.rulesDeadRow.veiledFits Tryz.prog Tryz.f15.params.toList (Tryz.f15.params.toList++Rows.rulesDeadSpec.plain.varTypes Tryz.prog++Tryz.f15.resultTypes.toList)) = true:=by kernel_rfl
theorem v2b:joinedFacts Tryz.prog 15 Tryz.f15 Rows.rulesDeadSpec Rows.rulesDeadRow = true:=(z2t (z2t (z2t (z2t (z2t (z2t (z2t (z2t (z2t (z2t (z2t (z2t (z2t (z2t (z2t (z2t (z2t (z2t (z2t (z2t (z2t (z2t (z2t (z2t (z2t (z2t (z2t (z2t (z2t (z2t (z2t v6b x17) y9k) v5z) v5y) v5x) x5x) v5w) y9i) v5v) v3k) v3j) v3i) v3h) v3g) v3f) v3e) v3d) v3c) v3b) v3a) v2z) y9j) v2y) y8b) x0y) x5z) x8m) v2x) v2w) v2v) v2u)
theorem named15:Tryz.pinned.checked.prog.funcNamed Rows.rulesDeadRow.func = some 15:=by kernel_rfl
theorem v5f:Tryz.f15.isInstance Tryz.pinned.checked.prog Rows.rulesDeadRow.origin Rows.rulesDeadRow.targs:=of_decide_eq_true (by kernel_rfl)
theorem v4d:Tryz.f15.isWrapper Tryz.pinned.checked.prog Rows.rulesDeadRow.wrapper Rows.rulesDeadRow.mainSum:=by unfold Func.isWrapper; first | (rw [if_pos (by decide +kernel)]; kernel_rfl) | (rw [if_neg (by decide +kernel)]; exact ⟨rfl,rfl⟩)
theorem w96:Rows.rulesDeadRow.wfByText (OpenSpec.ofChange Rows.rulesDeadSpec) = true:=by kernel_rfl
theorem v5i:false = Rows.rulesDeadRow.goesBy Tryz.pinned.checked.prog:=by kernel_rfl
end Go.Proofs.YtljjkomdibkjpaaGreatDoor
