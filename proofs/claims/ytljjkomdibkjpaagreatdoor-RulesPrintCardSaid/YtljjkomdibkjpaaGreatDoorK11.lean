/- Contracts of functions of the program and of the reference. -/
import Derived.Test.YtljjkomdibkjpaaGreatDoorK10
set_option linter.unusedVariables false
set_option linter.unusedSimpArgs false
/-! VC22 -/
set_option maxRecDepth 100000
set_option linter.unusedVariables false
namespace Go.Proofs
open Go Go.Ev
end Go.Proofs
/-! C22 -/
set_option maxRecDepth 100000
set_option linter.unusedVariables false
namespace Go.Proofs
open Go Go.Ev
/-! The same lists. -/
/-! The rules that fire. -/
section
variable {rs : List Rul} (hrs : okRs rs) (hsh : ∀ x ∈ rs, shT x.t = true) {p q : Prf} {Q : CR → Prop}
include hrs hsh
end
section
variable {rs : List Rul} (hrs : okRs rs) {p q : Prf} {Q : CR → Prop}
include hrs
end
/-! The reference's decision. -/
section
variable {rs : List Rul} (hrs : okRs rs) {p q : Prf} {Q : CR → Prop}
include hrs
end
end Go.Proofs
/-! C23 -/
set_option maxRecDepth 100000
set_option linter.unusedVariables false
namespace Go.Proofs
open Go Go.Ev
end Go.Proofs
