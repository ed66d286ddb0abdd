/- Closed facts of the program. -/
import Derived.ProofKit
import Derived.OpenShut
import Derived.LaidMore
import Derived.Lay
import Derived.ReadAgain
import Derived.SevenTiedAt
import Derived.Stop.Joined
import Derived.Test.YtljjkomdibkjpaaGreatDoorTie
import Derived.Test.YtljjkomdibkjpaaGreatDoorCards
set_option linter.unusedVariables false
set_option linter.unusedSimpArgs false
set_option maxRecDepth 100000
set_option linter.unusedVariables false
namespace Go.Proofs.YtljjkomdibkjpaaGreatDoor
open Go Go.ChangeShapes Go.WideShapes Go.ChangeAt Go.RowKit
theorem z2t {a b:Bool} (h1:a = true) (h2:b = true):(a && b) = true:=by rw [h1,h2]; rfl
theorem x17:laidOutB Tryz.prog = true:=by kernel_rfl
theorem y9k:mapsRowed Tryz.prog = true:=by kernel_rfl
theorem x5x:(Tryz.prog.stops == []) = true:=by kernel_rfl
theorem y9i:(Tryz.prog.stopKnobs == []) = true:=by kernel_rfl
theorem y9j:(Rows.rulesOrdinalsRow.plainKeys == Tryz.prog.plainKeys) = true:=by kernel_rfl
theorem y8b:Tryz.prog.stopsHeard = true:=by kernel_rfl
theorem x0y:Tryz.prog.mayEnter = true:=by kernel_rfl
theorem x5z:(Rows.rulesOrdinalsRow.lifted == Tryz.prog.liftsFinal) = true:=by kernel_rfl
theorem x8m:(Tryz.prog.make == some Rows.rulesOrdinalsRow.make) = true:=by kernel_rfl
theorem own:ownKnob Tryz.prog.godebug = none:=by kernel_rfl
theorem x8n : Tryz.pinned.checked.prog.mainIs = some (true, "8a39989b16c96edd8862227a28a39fd81b9a8129ba56d5c5d6d2d1b329311cf0".toList) := by kernel_rfl
theorem x5y:true = Tryz.pinned.checked.prog.looks []:=by kernel_rfl
end Go.Proofs.YtljjkomdibkjpaaGreatDoor
