/- Closed facts of one row. -/
import Derived.Test.YtljjkomdibkjpaaGreatDoorJF
set_option linter.unusedVariables false
set_option linter.unusedSimpArgs false
set_option maxRecDepth 100000
set_option linter.unusedVariables false
namespace Go.Proofs.YtljjkomdibkjpaaGreatDoor
open Go Go.ChangeShapes Go.WideShapes Go.ChangeAt Go.RowKit
theorem v6h:(Rows.rulesWitnessRow.wf (OpenSpec.ofChange Rows.rulesWitnessSpec)) = true:=by kernel_rfl
theorem v6g:(Tryz.f14.params.all (Tryz.prog.readableRec ·)) = true:=by kernel_rfl
theorem v6f:(namedTie Tryz.prog Rows.rulesWitnessRow.named Rows.rulesWitnessSpec.vars) = true:=by kernel_rfl
theorem v6e:((Rows.rulesWitnessRow.stops == [])) = true:=by kernel_rfl
theorem v6d:((Rows.rulesWitnessRow.knobs == [])) = true:=by kernel_rfl
theorem v6c:((Rows.rulesWitnessRow.inPlace == Tryz.prog.inPlace 14)) = true:=by kernel_rfl
theorem v4b:((Rows.rulesWitnessRow.unfollowed == Tryz.prog.unfollowed 14)) = true:=by kernel_rfl
theorem v4a:((Rows.rulesWitnessRow.recurses == Tryz.prog.recurses 14)) = true:=by kernel_rfl
theorem v3z:((Rows.rulesWitnessRow.named == Tryz.prog.varsNamed 14)) = true:=by kernel_rfl
theorem v3y:((Rows.rulesWitnessRow.maps == (Tryz.f14.params.toList++Rows.rulesWitnessSpec.plain.varTypes Tryz.prog).any (Tryz.prog.mapsRec ·))) = true:=by kernel_rfl
theorem v3x:((Rows.rulesWitnessRow.ifaces == (Tryz.f14.params.toList++Rows.rulesWitnessSpec.plain.varTypes Tryz.prog).any (Tryz.prog.ifacesRec ·))) = true:=by kernel_rfl
theorem v3w:((Rows.rulesWitnessRow.mapsOut == Tryz.prog.mapsAmong Tryz.f14.resultTypes.toList)) = true:=by kernel_rfl
theorem v3v:((Rows.rulesWitnessRow.loops == (Tryz.f14.params.toList++Rows.rulesWitnessSpec.plain.varTypes Tryz.prog).any (Tryz.prog.loopsFrom ·))) = true:=by kernel_rfl
theorem v3u:((Rows.rulesWitnessRow.wideKeys == (Tryz.f14.params.toList++Rows.rulesWitnessSpec.plain.varTypes Tryz.prog++Tryz.f14.resultTypes.toList).any (Tryz.prog.wideKeysFrom ·))) = true:=by kernel_rfl
theorem v3t:(Rows.rulesWitnessSpec.vars.all (Tryz.prog.varReadable ·)) = true:=by kernel_rfl
theorem v3s:(Tryz.f14.resultTypes.all (fun t=>Tryz.prog.readableRec t && decide (t < Tryz.prog.types.size))) = true:=by kernel_rfl
theorem v3r:((Rows.rulesWitnessRow.ifacesOut == Tryz.f14.resultTypes.toList.any (Tryz.prog.ifacesRec ·))) = true:=by kernel_rfl
theorem v3q:((Rows.rulesWitnessRow.loopsOut == Tryz.f14.resultTypes.toList.any (Tryz.prog.loopsFrom ·))) = true:=by kernel_rfl
theorem v3p:(Rows.rulesWitnessRow.shortTexts.isNone) = true:=by kernel_rfl
theorem v3o:((Rows.rulesWitnessRow.kinds == (if Rows.rulesWitnessRow.domain.isEmpty then [] else Tryz.f14.params.toList.map fun t=>match Tryz.prog.underlying t with | some (.int k)=>some k | _=>none))) = true:=by kernel_rfl
theorem v3n:((Rows.rulesWitnessRow.pinned == Rows.rulesWitnessRow.pinnedBy)) = true:=by kernel_rfl
theorem v3m:((Rows.rulesWitnessRow.veiled == (Tryz.f14.params.toList++Rows.rulesWitnessSpec.plain.varTypes Tryz.prog++Tryz.f14.resultTypes.toList).any (Tryz.prog.veiledRec ·))) = true:=by kernel_rfl
theorem v3l:(Rows.rulesWitnessRow.veiledFits Tryz.prog Tryz.f14.params.toList (Tryz.f14.params.toList++Rows.rulesWitnessSpec.plain.varTypes Tryz.prog++Tryz.f14.resultTypes.toList)) = true:=by kernel_rfl
theorem v2c:joinedFacts Tryz.prog 14 Tryz.f14 Rows.rulesWitnessSpec Rows.rulesWitnessRow = true:=(z2t (z2t (z2t (z2t (z2t (z2t (z2t (z2t (z2t (z2t (z2t (z2t (z2t (z2t (z2t (z2t (z2t (z2t (z2t (z2t (z2t (z2t (z2t (z2t (z2t (z2t (z2t (z2t (z2t (z2t (z2t v6h x17) y9k) v6g) v6f) v6e) x5x) v6d) y9i) v6c) v4b) v4a) v3z) v3y) v3x) v3w) v3v) v3u) v3t) v3s) v3r) v3q) y9j) v3p) y8b) x0y) x5z) x8m) v3o) v3n) v3m) v3l)
theorem named14:Tryz.pinned.checked.prog.funcNamed Rows.rulesWitnessRow.func = some 14:=by kernel_rfl
theorem v5g:Tryz.f14.isInstance Tryz.pinned.checked.prog Rows.rulesWitnessRow.origin Rows.rulesWitnessRow.targs:=of_decide_eq_true (by kernel_rfl)
theorem v4e:Tryz.f14.isWrapper Tryz.pinned.checked.prog Rows.rulesWitnessRow.wrapper Rows.rulesWitnessRow.mainSum:=by unfold Func.isWrapper; first | (rw [if_pos (by decide +kernel)]; kernel_rfl) | (rw [if_neg (by decide +kernel)]; exact ⟨rfl,rfl⟩)
theorem w97:Rows.rulesWitnessRow.wfByText (OpenSpec.ofChange Rows.rulesWitnessSpec) = true:=by kernel_rfl
theorem v5j:false = Rows.rulesWitnessRow.goesBy Tryz.pinned.checked.prog:=by kernel_rfl
end Go.Proofs.YtljjkomdibkjpaaGreatDoor
