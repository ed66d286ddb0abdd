/- Contracts of functions of the program and of the reference. -/
import Derived.Test.YtljjkomdibkjpaaGreatDoorK12
set_option linter.unusedVariables false
set_option linter.unusedSimpArgs false
/-! VC27 -/
set_option maxRecDepth 100000
set_option linter.unusedVariables false
namespace Go.Proofs
open Go Go.Ev
/-- A goes before b: Decide's word. -/
def gB (rs : List Rul) (a b : Prf) : Bool := (verdE rs a b).2.2.2 == 0 && (verdE rs a b).1 == 1
end Go.Proofs
/-! C27 -/
set_option maxRecDepth 100000
set_option linter.unusedVariables false
namespace Go.Proofs
open Go Go.Ev
/-! key -/
theorem w4 {x : Int} (h : 0 ≤ x ∧ x ≤ 1000) : IntKind.i64.wrap x = x := wrap_id (by omega) (by omega)
/-! goes -/
theorem blk1 (rs : List Rul) : [some (HB.cells [AV.vs (encRs rs) rs.length Tok.none] 25)].all (okBlk 1) = true := by simp [okBlk, noHB, noHL, noH, noH_encRs]
section
variable {rs : List Rul} (hw : wfRs rs) (p q s : Prf) (tk : Tok) {Q : CR → Prop}
include hw
end
/-! ahead -/
end Go.Proofs
/-! C28 -/
set_option maxRecDepth 100000
set_option linter.unusedVariables false
namespace Go.Proofs
open Go Go.Ev
/-! What a search finds is the first. -/
/-! The small profiles. -/
end Go.Proofs
