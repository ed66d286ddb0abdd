/- Closed facts of the program. -/
import Derived.ProofKit
import Derived.OpenShut
import Derived.LaidMore
import Derived.Lay
import Derived.ReadAgain
import Derived.SevenTiedAt
import Derived.Stop.Joined
import Derived.Test.YtljjkomdibkjpaaGreatDoorTie
import Derived.Test.YtljjkomdibkjpaaGreatDoorCards
set_option linter.unusedVariables false
set_option linter.unusedSimpArgs false
/-! JF -/
set_option maxRecDepth 100000
set_option linter.unusedVariables false
namespace Go.Proofs.YtljjkomdibkjpaaGreatDoor
open Go Go.ChangeShapes Go.WideShapes Go.ChangeAt Go.RowKit
theorem band {a b : Bool} (h1 : a = true) (h2 : b = true) : (a && b) = true := by rw [h1, h2]; rfl
theorem pf_laidOut : laidOutB Tryz.prog = true := by kernel_rfl
theorem pf_mapsRowed : mapsRowed Tryz.prog = true := by kernel_rfl
theorem pf_stops : (Tryz.prog.stops == []) = true := by kernel_rfl
theorem pf_stopKnobs : (Tryz.prog.stopKnobs == []) = true := by kernel_rfl
theorem pf_plainKeys : (Rows.rulesOrdinalsRow.plainKeys == Tryz.prog.plainKeys) = true := by kernel_rfl
theorem pf_stopsHeard : Tryz.prog.stopsHeard = true := by kernel_rfl
theorem pf_mayEnter : Tryz.prog.mayEnter = true := by kernel_rfl
theorem pf_lifts : (Rows.rulesOrdinalsRow.lifted == Tryz.prog.liftsFinal) = true := by kernel_rfl
theorem pf_make : (Tryz.prog.make == some Rows.rulesOrdinalsRow.make) = true := by kernel_rfl
theorem own : ownKnob Tryz.prog.godebug = none := by kernel_rfl
theorem pf_main : Tryz.pinned.checked.prog.mainIs = some (true, "8a39989b16c96edd8862227a28a39fd81b9a8129ba56d5c5d6d2d1b329311cf0".toList) := by kernel_rfl
theorem pf_looks : true = Tryz.pinned.checked.prog.looks [] := by kernel_rfl
end Go.Proofs.YtljjkomdibkjpaaGreatDoor
