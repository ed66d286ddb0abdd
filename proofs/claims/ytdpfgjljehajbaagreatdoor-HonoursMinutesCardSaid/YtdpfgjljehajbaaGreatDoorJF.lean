/- Closed facts of the program. -/
import Derived.Test.YtdpfgjljehajbaaGreatDoorJF0
import Derived.Test.YtdpfgjljehajbaaGreatDoorJF1
import Derived.Test.YtdpfgjljehajbaaGreatDoorJF2
import Derived.Test.YtdpfgjljehajbaaGreatDoorJF3
set_option linter.unusedVariables false
set_option linter.unusedSimpArgs false
set_option maxRecDepth 100000
namespace Go.Proofs.YtdpfgjljehajbaaGreatDoor
open Go Go.ChangeShapes Go.WideShapes Go.ChangeAt Go.RowKit
theorem z18 {a b:Bool}(h1:a=true)(h2:b=true):(a && b)=true:=by rw[h1,h2];rfl
theorem x0s:laidOutB Tryz.prog=true:=by kernel_rfl
theorem y8c:mapsRowed Tryz.prog=true:=by kernel_rfl
theorem x39:(Tryz.prog.stops == [])=true:=by kernel_rfl
theorem y8a:(Tryz.prog.stopKnobs == [])=true:=by kernel_rfl
theorem y8b:(Rows.honoursGunsRow.plainKeys == Tryz.prog.plainKeys)=true:=by kernel_rfl
theorem own:ownKnob Tryz.prog.godebug=none:=by kernel_rfl
theorem x6s : Tryz.pinned.checked.prog.mainIs = some (true, "3a186af1b2027ba33b2885bf5840cdc6fead5f27ca1ba81e124aea93eac250d8".toList) := by kernel_rfl
theorem x4:true=Tryz.pinned.checked.prog.looks []:=by kernel_rfl
end Go.Proofs.YtdpfgjljehajbaaGreatDoor
