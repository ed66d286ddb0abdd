/- Closed facts of one row. -/
import Derived.Test.YtdpfgjljehajbaaGreatDoorJF
set_option linter.unusedVariables false
set_option linter.unusedSimpArgs false
set_option maxRecDepth 100000
set_option linter.unusedVariables false
namespace Go.Proofs.YtdpfgjljehajbaaGreatDoor
open Go Go.ChangeShapes Go.WideShapes Go.ChangeAt Go.RowKit
theorem w1g:(Rows.honoursAtRow.wf (OpenSpec.ofChange Rows.honoursAtSpec)) = true:=by kernel_rfl
theorem w1f:(Tryz.f3.params.all (Tryz.prog.readableRec ·)) = true:=by kernel_rfl
theorem w1e:(namedTie Tryz.prog Rows.honoursAtRow.named Rows.honoursAtSpec.vars) = true:=by kernel_rfl
theorem w1d:((Rows.honoursAtRow.stops == [])) = true:=by kernel_rfl
theorem w1c:((Rows.honoursAtRow.knobs == [])) = true:=by kernel_rfl
theorem w1b:((Rows.honoursAtRow.inPlace == Tryz.prog.inPlace 3)) = true:=by kernel_rfl
theorem w0c:((Rows.honoursAtRow.unfollowed == Tryz.prog.unfollowed 3)) = true:=by kernel_rfl
theorem w0b:((Rows.honoursAtRow.recurses == Tryz.prog.recurses 3)) = true:=by kernel_rfl
theorem w0a:((Rows.honoursAtRow.named == Tryz.prog.varsNamed 3)) = true:=by kernel_rfl
theorem x99:((Rows.honoursAtRow.maps == (Tryz.f3.params.toList++Rows.honoursAtSpec.plain.varTypes Tryz.prog).any (Tryz.prog.mapsRec ·))) = true:=by kernel_rfl
theorem x98:((Rows.honoursAtRow.ifaces == (Tryz.f3.params.toList++Rows.honoursAtSpec.plain.varTypes Tryz.prog).any (Tryz.prog.ifacesRec ·))) = true:=by kernel_rfl
theorem x97:((Rows.honoursAtRow.mapsOut == Tryz.prog.mapsAmong Tryz.f3.resultTypes.toList)) = true:=by kernel_rfl
theorem x96:((Rows.honoursAtRow.loops == (Tryz.f3.params.toList++Rows.honoursAtSpec.plain.varTypes Tryz.prog).any (Tryz.prog.loopsFrom ·))) = true:=by kernel_rfl
theorem x95:((Rows.honoursAtRow.wideKeys == (Tryz.f3.params.toList++Rows.honoursAtSpec.plain.varTypes Tryz.prog++Tryz.f3.resultTypes.toList).any (Tryz.prog.wideKeysFrom ·))) = true:=by kernel_rfl
theorem x94:(Rows.honoursAtSpec.vars.all (Tryz.prog.varReadable ·)) = true:=by kernel_rfl
theorem x93:(Tryz.f3.resultTypes.all (fun t=>Tryz.prog.readableRec t && decide (t < Tryz.prog.types.size))) = true:=by kernel_rfl
theorem x92:((Rows.honoursAtRow.ifacesOut == Tryz.f3.resultTypes.toList.any (Tryz.prog.ifacesRec ·))) = true:=by kernel_rfl
theorem x91:((Rows.honoursAtRow.loopsOut == Tryz.f3.resultTypes.toList.any (Tryz.prog.loopsFrom ·))) = true:=by kernel_rfl
theorem x90:(Rows.honoursAtRow.shortTexts.isNone) = true:=by kernel_rfl
theorem x9z:((Rows.honoursAtRow.kinds == (if Rows.honoursAtRow.domain.isEmpty then [] else Tryz.f3.params.toList.map fun t=>match Tryz.prog.underlying t with | some (.int k)=>some k | _=>none))) = true:=by kernel_rfl
theorem x9y:((Rows.honoursAtRow.pinned == Rows.honoursAtRow.pinnedBy)) = true:=by kernel_rfl
theorem x9x:((Rows.honoursAtRow.veiled == (Tryz.f3.params.toList++Rows.honoursAtSpec.plain.varTypes Tryz.prog++Tryz.f3.resultTypes.toList).any (Tryz.prog.veiledRec ·))) = true:=by kernel_rfl
theorem x9w:(Rows.honoursAtRow.veiledFits Tryz.prog Tryz.f3.params.toList (Tryz.f3.params.toList++Rows.honoursAtSpec.plain.varTypes Tryz.prog++Tryz.f3.resultTypes.toList)) = true:=by kernel_rfl
theorem x9l:joinedFacts Tryz.prog 3 Tryz.f3 Rows.honoursAtSpec Rows.honoursAtRow = true:=(z18 (z18 (z18 (z18 (z18 (z18 (z18 (z18 (z18 (z18 (z18 (z18 (z18 (z18 (z18 (z18 (z18 (z18 (z18 (z18 (z18 (z18 (z18 (z18 (z18 (z18 (z18 (z18 (z18 (z18 (z18 w1g x0s) y8c) w1f) w1e) w1d) x39) w1c) y8a) w1b) w0c) w0b) w0a) x99) x98) x97) x96) x95) x94) x93) x92) x91) y8b) x90) y7d) y9t) x4a) x6r) x9z) x9y) x9x) x9w)
theorem named3:Tryz.pinned.checked.prog.funcNamed Rows.honoursAtRow.func = some 3:=by kernel_rfl
theorem w0x:Tryz.f3.isInstance Tryz.pinned.checked.prog Rows.honoursAtRow.origin Rows.honoursAtRow.targs:=of_decide_eq_true (by kernel_rfl)
theorem x48:Tryz.f3.isWrapper Tryz.pinned.checked.prog Rows.honoursAtRow.wrapper Rows.honoursAtRow.mainSum:=by unfold Func.isWrapper; first | (rw [if_pos (by decide +kernel)]; kernel_rfl) | (rw [if_neg (by decide +kernel)]; exact ⟨rfl,rfl⟩)
theorem x6m:Rows.honoursAtRow.wfByText (OpenSpec.ofChange Rows.honoursAtSpec) = true:=by kernel_rfl
theorem w0y:false = Rows.honoursAtRow.goesBy Tryz.pinned.checked.prog:=by kernel_rfl
end Go.Proofs.YtdpfgjljehajbaaGreatDoor
