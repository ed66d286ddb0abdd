/- Closed facts of one row. -/
import Derived.Test.YtdpfgjljehajbaaGreatDoorJF
set_option linter.unusedVariables false
set_option linter.unusedSimpArgs false
set_option maxRecDepth 100000
set_option linter.unusedVariables false
namespace Go.Proofs.YtdpfgjljehajbaaGreatDoor
open Go Go.ChangeShapes Go.WideShapes Go.ChangeAt Go.RowKit
theorem w6i:(Rows.honoursNextRow.wf (OpenSpec.ofChange Rows.honoursNextSpec)) = true:=by kernel_rfl
theorem w6h:(Tryz.f4.params.all (Tryz.prog.readableRec ·)) = true:=by kernel_rfl
theorem w6g:(namedTie Tryz.prog Rows.honoursNextRow.named Rows.honoursNextSpec.vars) = true:=by kernel_rfl
theorem w6f:((Rows.honoursNextRow.stops == [])) = true:=by kernel_rfl
theorem w6e:((Rows.honoursNextRow.knobs == [])) = true:=by kernel_rfl
theorem w6d:((Rows.honoursNextRow.inPlace == Tryz.prog.inPlace 4)) = true:=by kernel_rfl
theorem w59:((Rows.honoursNextRow.unfollowed == Tryz.prog.unfollowed 4)) = true:=by kernel_rfl
theorem w58:((Rows.honoursNextRow.recurses == Tryz.prog.recurses 4)) = true:=by kernel_rfl
theorem w57:((Rows.honoursNextRow.named == Tryz.prog.varsNamed 4)) = true:=by kernel_rfl
theorem w56:((Rows.honoursNextRow.maps == (Tryz.f4.params.toList++Rows.honoursNextSpec.plain.varTypes Tryz.prog).any (Tryz.prog.mapsRec ·))) = true:=by kernel_rfl
theorem w55:((Rows.honoursNextRow.ifaces == (Tryz.f4.params.toList++Rows.honoursNextSpec.plain.varTypes Tryz.prog).any (Tryz.prog.ifacesRec ·))) = true:=by kernel_rfl
theorem w54:((Rows.honoursNextRow.mapsOut == Tryz.prog.mapsAmong Tryz.f4.resultTypes.toList)) = true:=by kernel_rfl
theorem w53:((Rows.honoursNextRow.loops == (Tryz.f4.params.toList++Rows.honoursNextSpec.plain.varTypes Tryz.prog).any (Tryz.prog.loopsFrom ·))) = true:=by kernel_rfl
theorem w52:((Rows.honoursNextRow.wideKeys == (Tryz.f4.params.toList++Rows.honoursNextSpec.plain.varTypes Tryz.prog++Tryz.f4.resultTypes.toList).any (Tryz.prog.wideKeysFrom ·))) = true:=by kernel_rfl
theorem w51:(Rows.honoursNextSpec.vars.all (Tryz.prog.varReadable ·)) = true:=by kernel_rfl
theorem w50:(Tryz.f4.resultTypes.all (fun t=>Tryz.prog.readableRec t && decide (t < Tryz.prog.types.size))) = true:=by kernel_rfl
theorem w5z:((Rows.honoursNextRow.ifacesOut == Tryz.f4.resultTypes.toList.any (Tryz.prog.ifacesRec ·))) = true:=by kernel_rfl
theorem w5y:((Rows.honoursNextRow.loopsOut == Tryz.f4.resultTypes.toList.any (Tryz.prog.loopsFrom ·))) = true:=by kernel_rfl
theorem w5x:(Rows.honoursNextRow.shortTexts.isNone) = true:=by kernel_rfl
theorem w5w:((Rows.honoursNextRow.kinds == (if Rows.honoursNextRow.domain.isEmpty then [] else Tryz.f4.params.toList.map fun t=>match Tryz.prog.underlying t with | some (.int k)=>some k | _=>none))) = true:=by kernel_rfl
theorem w5v:((Rows.honoursNextRow.pinned == Rows.honoursNextRow.pinnedBy)) = true:=by kernel_rfl
theorem w5u:((Rows.honoursNextRow.veiled == (Tryz.f4.params.toList++Rows.honoursNextSpec.plain.varTypes Tryz.prog++Tryz.f4.resultTypes.toList).any (Tryz.prog.veiledRec ·))) = true:=by kernel_rfl
theorem w5t:(Rows.honoursNextRow.veiledFits Tryz.prog Tryz.f4.params.toList (Tryz.f4.params.toList++Rows.honoursNextSpec.plain.varTypes Tryz.prog++Tryz.f4.resultTypes.toList)) = true:=by kernel_rfl
theorem w5s:joinedFacts Tryz.prog 4 Tryz.f4 Rows.honoursNextSpec Rows.honoursNextRow = true:=(z18 (z18 (z18 (z18 (z18 (z18 (z18 (z18 (z18 (z18 (z18 (z18 (z18 (z18 (z18 (z18 (z18 (z18 (z18 (z18 (z18 (z18 (z18 (z18 (z18 (z18 (z18 (z18 (z18 (z18 (z18 w6i x0s) y8c) w6h) w6g) w6f) x39) w6e) y8a) w6d) w59) w58) w57) w56) w55) w54) w53) w52) w51) w50) w5z) w5y) y8b) w5x) y7d) y9t) x4a) x6r) w5w) w5v) w5u) w5t)
theorem named4:Tryz.pinned.checked.prog.funcNamed Rows.honoursNextRow.func = some 4:=by kernel_rfl
theorem w6b:Tryz.f4.isInstance Tryz.pinned.checked.prog Rows.honoursNextRow.origin Rows.honoursNextRow.targs:=of_decide_eq_true (by kernel_rfl)
theorem w6a:Tryz.f4.isWrapper Tryz.pinned.checked.prog Rows.honoursNextRow.wrapper Rows.honoursNextRow.mainSum:=by unfold Func.isWrapper; first | (rw [if_pos (by decide +kernel)]; kernel_rfl) | (rw [if_neg (by decide +kernel)]; exact ⟨rfl,rfl⟩)
theorem w43:Rows.honoursNextRow.wfByText (OpenSpec.ofChange Rows.honoursNextSpec) = true:=by kernel_rfl
theorem w6c:false = Rows.honoursNextRow.goesBy Tryz.pinned.checked.prog:=by kernel_rfl
end Go.Proofs.YtdpfgjljehajbaaGreatDoor
