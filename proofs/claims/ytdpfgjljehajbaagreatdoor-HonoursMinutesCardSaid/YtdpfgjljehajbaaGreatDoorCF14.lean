/- Closed facts of one row. -/
import Derived.Test.YtdpfgjljehajbaaGreatDoorJF
set_option linter.unusedVariables false
set_option linter.unusedSimpArgs false
set_option maxRecDepth 100000
namespace Go.Proofs.YtdpfgjljehajbaaGreatDoor
open Go Go.ChangeShapes Go.WideShapes Go.ChangeAt Go.RowKit
theorem v6h:(Rows.honoursMinutesRow.wf (OpenSpec.ofChange Rows.honoursMinutesSpec))=true:=by kernel_rfl
theorem v6g:(Tryz.f14.params.all (Tryz.prog.readableRec ·))=true:=by kernel_rfl
theorem v6f:(namedTie Tryz.prog Rows.honoursMinutesRow.named Rows.honoursMinutesSpec.vars)=true:=by kernel_rfl
theorem v6e:((Rows.honoursMinutesRow.stops == []))=true:=by kernel_rfl
theorem v6d:((Rows.honoursMinutesRow.knobs == []))=true:=by kernel_rfl
theorem v6c:((Rows.honoursMinutesRow.inPlace == Tryz.prog.inPlace 14))=true:=by kernel_rfl
theorem v5s:((Rows.honoursMinutesRow.unfollowed == Tryz.prog.unfollowed 14))=true:=by kernel_rfl
theorem v5r:((Rows.honoursMinutesRow.recurses == Tryz.prog.recurses 14))=true:=by kernel_rfl
theorem v5q:((Rows.honoursMinutesRow.named == Tryz.prog.varsNamed 14))=true:=by kernel_rfl
theorem v5p:((Rows.honoursMinutesRow.maps == (Tryz.f14.params.toList++Rows.honoursMinutesSpec.plain.varTypes Tryz.prog).any (Tryz.prog.mapsRec ·)))=true:=by kernel_rfl
theorem v5o:((Rows.honoursMinutesRow.ifaces == (Tryz.f14.params.toList++Rows.honoursMinutesSpec.plain.varTypes Tryz.prog).any (Tryz.prog.ifacesRec ·)))=true:=by kernel_rfl
theorem v5n:((Rows.honoursMinutesRow.mapsOut == Tryz.prog.mapsAmong Tryz.f14.resultTypes.toList))=true:=by kernel_rfl
theorem v5m:((Rows.honoursMinutesRow.loops == (Tryz.f14.params.toList++Rows.honoursMinutesSpec.plain.varTypes Tryz.prog).any (Tryz.prog.loopsFrom ·)))=true:=by kernel_rfl
theorem v5l:((Rows.honoursMinutesRow.wideKeys == (Tryz.f14.params.toList++Rows.honoursMinutesSpec.plain.varTypes Tryz.prog++Tryz.f14.resultTypes.toList).any (Tryz.prog.wideKeysFrom ·)))=true:=by kernel_rfl
theorem v5k:(Rows.honoursMinutesSpec.vars.all (Tryz.prog.varReadable ·))=true:=by kernel_rfl
theorem v5j:(Tryz.f14.resultTypes.all (fun t=>Tryz.prog.readableRec t && decide (t < Tryz.prog.types.size)))=true:=by kernel_rfl
theorem v5i:((Rows.honoursMinutesRow.ifacesOut == Tryz.f14.resultTypes.toList.any (Tryz.prog.ifacesRec ·)))=true:=by kernel_rfl
theorem v5h:((Rows.honoursMinutesRow.loopsOut == Tryz.f14.resultTypes.toList.any (Tryz.prog.loopsFrom ·)))=true:=by kernel_rfl
theorem v5g:(Rows.honoursMinutesRow.shortTexts.isNone)=true:=by kernel_rfl
theorem v5f:((Rows.honoursMinutesRow.kinds == (if Rows.honoursMinutesRow.domain.isEmpty then [] else Tryz.f14.params.toList.map fun t=>match Tryz.prog.underlying t with | some (.int k)=>some k | _=>none)))=true:=by kernel_rfl
theorem v5e:((Rows.honoursMinutesRow.pinned == Rows.honoursMinutesRow.pinnedBy))=true:=by kernel_rfl
theorem v5d:((Rows.honoursMinutesRow.veiled == (Tryz.f14.params.toList++Rows.honoursMinutesSpec.plain.varTypes Tryz.prog++Tryz.f14.resultTypes.toList).any (Tryz.prog.veiledRec ·)))=true:=by kernel_rfl
theorem v5c:(Rows.honoursMinutesRow.veiledFits Tryz.prog Tryz.f14.params.toList (Tryz.f14.params.toList++Rows.honoursMinutesSpec.plain.varTypes Tryz.prog++Tryz.f14.resultTypes.toList))=true:=by kernel_rfl
theorem v5a:joinedFacts Tryz.prog 14 Tryz.f14 Rows.honoursMinutesSpec Rows.honoursMinutesRow=true:=(z18 (z18 (z18 (z18 (z18 (z18 (z18 (z18 (z18 (z18 (z18 (z18 (z18 (z18 (z18 (z18 (z18 (z18 (z18 (z18 (z18 (z18 (z18 (z18 (z18 (z18 (z18 (z18 (z18 (z18 (z18 v6h x0s) y8c) v6g) v6f) v6e) x39) v6d) y8a) v6c) v5s) v5r) v5q) v5p) v5o) v5n) v5m) v5l) v5k) v5j) v5i) v5h) y8b) v5g) y7d) y9t) x4a) x6r) v5f) v5e) v5d) v5c)
theorem named14:Tryz.pinned.checked.prog.funcNamed Rows.honoursMinutesRow.func=some 14:=by kernel_rfl
theorem v6a:Tryz.f14.isInstance Tryz.pinned.checked.prog Rows.honoursMinutesRow.origin Rows.honoursMinutesRow.targs:=of_decide_eq_true (by kernel_rfl)
theorem v5t:Tryz.f14.isWrapper Tryz.pinned.checked.prog Rows.honoursMinutesRow.wrapper Rows.honoursMinutesRow.mainSum:=by unfold Func.isWrapper;first | (rw[if_pos (by decide +kernel)];kernel_rfl) | (rw[if_neg (by decide +kernel)];exact ⟨rfl,rfl⟩)
theorem v4u:Rows.honoursMinutesRow.wfByText (OpenSpec.ofChange Rows.honoursMinutesSpec)=true:=by kernel_rfl
theorem v6b:false=Rows.honoursMinutesRow.goesBy Tryz.pinned.checked.prog:=by kernel_rfl
end Go.Proofs.YtdpfgjljehajbaaGreatDoor
