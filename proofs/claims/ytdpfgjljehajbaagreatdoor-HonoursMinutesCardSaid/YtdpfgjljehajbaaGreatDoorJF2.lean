/- A closed fact of the program. -/
import Derived.ProofKit
import Derived.OpenShut
import Derived.LaidMore
import Derived.Lay
import Derived.ReadAgain
import Derived.SevenTiedAt
import Derived.Stop.Joined
import Derived.Test.YtdpfgjljehajbaaGreatDoorTie
import Derived.Test.YtdpfgjljehajbaaGreatDoorCards
set_option linter.unusedVariables false
set_option linter.unusedSimpArgs false
set_option maxRecDepth 100000
namespace Go.Proofs.YtdpfgjljehajbaaGreatDoor
open Go Go.ChangeShapes Go.WideShapes Go.ChangeAt Go.RowKit
theorem x4a:(Rows.honoursGunsRow.lifted == Tryz.prog.liftsFinal)=true:=by kernel_rfl
end Go.Proofs.YtdpfgjljehajbaaGreatDoor
