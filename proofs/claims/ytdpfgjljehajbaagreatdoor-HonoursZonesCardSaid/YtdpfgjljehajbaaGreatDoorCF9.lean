/- Closed facts of one row. -/
import Derived.Test.YtdpfgjljehajbaaGreatDoorJF
set_option linter.unusedVariables false
set_option linter.unusedSimpArgs false
set_option maxRecDepth 100000
set_option linter.unusedVariables false
namespace Go.Proofs.YtdpfgjljehajbaaGreatDoor
open Go Go.ChangeShapes Go.WideShapes Go.ChangeAt Go.RowKit
theorem w7p:(Rows.honoursZonesRow.wf (OpenSpec.ofChange Rows.honoursZonesSpec)) = true:=by kernel_rfl
theorem w7o:(Tryz.f9.params.all (Tryz.prog.readableRec ·)) = true:=by kernel_rfl
theorem w7n:(namedTie Tryz.prog Rows.honoursZonesRow.named Rows.honoursZonesSpec.vars) = true:=by kernel_rfl
theorem w7m:((Rows.honoursZonesRow.stops == [])) = true:=by kernel_rfl
theorem w7l:((Rows.honoursZonesRow.knobs == [])) = true:=by kernel_rfl
theorem w7k:((Rows.honoursZonesRow.inPlace == Tryz.prog.inPlace 9)) = true:=by kernel_rfl
theorem w7c:((Rows.honoursZonesRow.unfollowed == Tryz.prog.unfollowed 9)) = true:=by kernel_rfl
theorem w7b:((Rows.honoursZonesRow.recurses == Tryz.prog.recurses 9)) = true:=by kernel_rfl
theorem w7a:((Rows.honoursZonesRow.named == Tryz.prog.varsNamed 9)) = true:=by kernel_rfl
theorem w69:((Rows.honoursZonesRow.maps == (Tryz.f9.params.toList++Rows.honoursZonesSpec.plain.varTypes Tryz.prog).any (Tryz.prog.mapsRec ·))) = true:=by kernel_rfl
theorem w68:((Rows.honoursZonesRow.ifaces == (Tryz.f9.params.toList++Rows.honoursZonesSpec.plain.varTypes Tryz.prog).any (Tryz.prog.ifacesRec ·))) = true:=by kernel_rfl
theorem w67:((Rows.honoursZonesRow.mapsOut == Tryz.prog.mapsAmong Tryz.f9.resultTypes.toList)) = true:=by kernel_rfl
theorem w66:((Rows.honoursZonesRow.loops == (Tryz.f9.params.toList++Rows.honoursZonesSpec.plain.varTypes Tryz.prog).any (Tryz.prog.loopsFrom ·))) = true:=by kernel_rfl
theorem w65:((Rows.honoursZonesRow.wideKeys == (Tryz.f9.params.toList++Rows.honoursZonesSpec.plain.varTypes Tryz.prog++Tryz.f9.resultTypes.toList).any (Tryz.prog.wideKeysFrom ·))) = true:=by kernel_rfl
theorem w64:(Rows.honoursZonesSpec.vars.all (Tryz.prog.varReadable ·)) = true:=by kernel_rfl
theorem w63:(Tryz.f9.resultTypes.all (fun t=>Tryz.prog.readableRec t && decide (t < Tryz.prog.types.size))) = true:=by kernel_rfl
theorem w62:((Rows.honoursZonesRow.ifacesOut == Tryz.f9.resultTypes.toList.any (Tryz.prog.ifacesRec ·))) = true:=by kernel_rfl
theorem w61:((Rows.honoursZonesRow.loopsOut == Tryz.f9.resultTypes.toList.any (Tryz.prog.loopsFrom ·))) = true:=by kernel_rfl
theorem w60:(Rows.honoursZonesRow.shortTexts.isNone) = true:=by kernel_rfl
theorem w6z:((Rows.honoursZonesRow.kinds == (if Rows.honoursZonesRow.domain.isEmpty then [] else Tryz.f9.params.toList.map fun t=>match Tryz.prog.underlying t with | some (.int k)=>some k | _=>none))) = true:=by kernel_rfl
theorem w6y:((Rows.honoursZonesRow.pinned == Rows.honoursZonesRow.pinnedBy)) = true:=by kernel_rfl
theorem w6x:((Rows.honoursZonesRow.veiled == (Tryz.f9.params.toList++Rows.honoursZonesSpec.plain.varTypes Tryz.prog++Tryz.f9.resultTypes.toList).any (Tryz.prog.veiledRec ·))) = true:=by kernel_rfl
theorem w6w:(Rows.honoursZonesRow.veiledFits Tryz.prog Tryz.f9.params.toList (Tryz.f9.params.toList++Rows.honoursZonesSpec.plain.varTypes Tryz.prog++Tryz.f9.resultTypes.toList)) = true:=by kernel_rfl
theorem w6u:joinedFacts Tryz.prog 9 Tryz.f9 Rows.honoursZonesSpec Rows.honoursZonesRow = true:=(z18 (z18 (z18 (z18 (z18 (z18 (z18 (z18 (z18 (z18 (z18 (z18 (z18 (z18 (z18 (z18 (z18 (z18 (z18 (z18 (z18 (z18 (z18 (z18 (z18 (z18 (z18 (z18 (z18 (z18 (z18 w7p x0s) y8c) w7o) w7n) w7m) x39) w7l) y8a) w7k) w7c) w7b) w7a) w69) w68) w67) w66) w65) w64) w63) w62) w61) y8b) w60) y7d) y9t) x4a) x6r) w6z) w6y) w6x) w6w)
theorem named9:Tryz.pinned.checked.prog.funcNamed Rows.honoursZonesRow.func = some 9:=by kernel_rfl
theorem w7i:Tryz.f9.isInstance Tryz.pinned.checked.prog Rows.honoursZonesRow.origin Rows.honoursZonesRow.targs:=of_decide_eq_true (by kernel_rfl)
theorem w7g:Tryz.f9.isWrapper Tryz.pinned.checked.prog Rows.honoursZonesRow.wrapper Rows.honoursZonesRow.mainSum:=by unfold Func.isWrapper; first | (rw [if_pos (by decide +kernel)]; kernel_rfl) | (rw [if_neg (by decide +kernel)]; exact ⟨rfl,rfl⟩)
theorem w6q:Rows.honoursZonesRow.wfByText (OpenSpec.ofChange Rows.honoursZonesSpec) = true:=by kernel_rfl
theorem w7j:false = Rows.honoursZonesRow.goesBy Tryz.pinned.checked.prog:=by kernel_rfl
end Go.Proofs.YtdpfgjljehajbaaGreatDoor
