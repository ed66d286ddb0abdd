/- Closed facts of one row. -/
import Derived.Test.YtdpfgjljehajbaaGreatDoorJF
set_option linter.unusedVariables false
set_option linter.unusedSimpArgs false
set_option maxRecDepth 100000
namespace Go.Proofs.YtdpfgjljehajbaaGreatDoor
open Go Go.ChangeShapes Go.WideShapes Go.ChangeAt Go.RowKit
theorem v2o:(Rows.honoursLinesRow.wf (OpenSpec.ofChange Rows.honoursLinesSpec))=true:=by kernel_rfl
theorem v2n:(Tryz.f13.params.all (Tryz.prog.readableRec ·))=true:=by kernel_rfl
theorem v2m:(namedTie Tryz.prog Rows.honoursLinesRow.named Rows.honoursLinesSpec.vars)=true:=by kernel_rfl
theorem v2l:((Rows.honoursLinesRow.stops == []))=true:=by kernel_rfl
theorem v2k:((Rows.honoursLinesRow.knobs == []))=true:=by kernel_rfl
theorem v2j:((Rows.honoursLinesRow.inPlace == Tryz.prog.inPlace 13))=true:=by kernel_rfl
theorem v09:((Rows.honoursLinesRow.unfollowed == Tryz.prog.unfollowed 13))=true:=by kernel_rfl
theorem v08:((Rows.honoursLinesRow.recurses == Tryz.prog.recurses 13))=true:=by kernel_rfl
theorem v07:((Rows.honoursLinesRow.named == Tryz.prog.varsNamed 13))=true:=by kernel_rfl
theorem v06:((Rows.honoursLinesRow.maps == (Tryz.f13.params.toList++Rows.honoursLinesSpec.plain.varTypes Tryz.prog).any (Tryz.prog.mapsRec ·)))=true:=by kernel_rfl
theorem v05:((Rows.honoursLinesRow.ifaces == (Tryz.f13.params.toList++Rows.honoursLinesSpec.plain.varTypes Tryz.prog).any (Tryz.prog.ifacesRec ·)))=true:=by kernel_rfl
theorem v04:((Rows.honoursLinesRow.mapsOut == Tryz.prog.mapsAmong Tryz.f13.resultTypes.toList))=true:=by kernel_rfl
theorem v03:((Rows.honoursLinesRow.loops == (Tryz.f13.params.toList++Rows.honoursLinesSpec.plain.varTypes Tryz.prog).any (Tryz.prog.loopsFrom ·)))=true:=by kernel_rfl
theorem v02:((Rows.honoursLinesRow.wideKeys == (Tryz.f13.params.toList++Rows.honoursLinesSpec.plain.varTypes Tryz.prog++Tryz.f13.resultTypes.toList).any (Tryz.prog.wideKeysFrom ·)))=true:=by kernel_rfl
theorem v01:(Rows.honoursLinesSpec.vars.all (Tryz.prog.varReadable ·))=true:=by kernel_rfl
theorem v00:(Tryz.f13.resultTypes.all (fun t=>Tryz.prog.readableRec t && decide (t < Tryz.prog.types.size)))=true:=by kernel_rfl
theorem v0z:((Rows.honoursLinesRow.ifacesOut == Tryz.f13.resultTypes.toList.any (Tryz.prog.ifacesRec ·)))=true:=by kernel_rfl
theorem v0y:((Rows.honoursLinesRow.loopsOut == Tryz.f13.resultTypes.toList.any (Tryz.prog.loopsFrom ·)))=true:=by kernel_rfl
theorem v0x:(Rows.honoursLinesRow.shortTexts.isNone)=true:=by kernel_rfl
theorem v0w:((Rows.honoursLinesRow.kinds == (if Rows.honoursLinesRow.domain.isEmpty then [] else Tryz.f13.params.toList.map fun t=>match Tryz.prog.underlying t with | some (.int k)=>some k | _=>none)))=true:=by kernel_rfl
theorem v0v:((Rows.honoursLinesRow.pinned == Rows.honoursLinesRow.pinnedBy))=true:=by kernel_rfl
theorem v0u:((Rows.honoursLinesRow.veiled == (Tryz.f13.params.toList++Rows.honoursLinesSpec.plain.varTypes Tryz.prog++Tryz.f13.resultTypes.toList).any (Tryz.prog.veiledRec ·)))=true:=by kernel_rfl
theorem v0t:(Rows.honoursLinesRow.veiledFits Tryz.prog Tryz.f13.params.toList (Tryz.f13.params.toList++Rows.honoursLinesSpec.plain.varTypes Tryz.prog++Tryz.f13.resultTypes.toList))=true:=by kernel_rfl
theorem v0s:joinedFacts Tryz.prog 13 Tryz.f13 Rows.honoursLinesSpec Rows.honoursLinesRow=true:=(z18 (z18 (z18 (z18 (z18 (z18 (z18 (z18 (z18 (z18 (z18 (z18 (z18 (z18 (z18 (z18 (z18 (z18 (z18 (z18 (z18 (z18 (z18 (z18 (z18 (z18 (z18 (z18 (z18 (z18 (z18 v2o x0s) y8c) v2n) v2m) v2l) x39) v2k) y8a) v2j) v09) v08) v07) v06) v05) v04) v03) v02) v01) v00) v0z) v0y) y8b) v0x) y7d) y9t) x4a) x6r) v0w) v0v) v0u) v0t)
theorem named13:Tryz.pinned.checked.prog.funcNamed Rows.honoursLinesRow.func=some 13:=by kernel_rfl
theorem v2c:Tryz.f13.isInstance Tryz.pinned.checked.prog Rows.honoursLinesRow.origin Rows.honoursLinesRow.targs:=of_decide_eq_true (by kernel_rfl)
theorem v1b:Tryz.f13.isWrapper Tryz.pinned.checked.prog Rows.honoursLinesRow.wrapper Rows.honoursLinesRow.mainSum:=by unfold Func.isWrapper;first | (rw[if_pos (by decide +kernel)];kernel_rfl) | (rw[if_neg (by decide +kernel)];exact ⟨rfl,rfl⟩)
theorem w9s:Rows.honoursLinesRow.wfByText (OpenSpec.ofChange Rows.honoursLinesSpec)=true:=by kernel_rfl
theorem v2f:false=Rows.honoursLinesRow.goesBy Tryz.pinned.checked.prog:=by kernel_rfl
end Go.Proofs.YtdpfgjljehajbaaGreatDoor
