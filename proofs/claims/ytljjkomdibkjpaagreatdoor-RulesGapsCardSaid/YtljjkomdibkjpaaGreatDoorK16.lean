/- Contracts of functions of the program and of the reference. -/
import Derived.Test.YtljjkomdibkjpaaGreatDoorK12
import Derived.Test.YtljjkomdibkjpaaGreatDoorE6
import Derived.Test.YtljjkomdibkjpaaGreatDoorK14
import Derived.Test.YtljjkomdibkjpaaGreatDoorK15
set_option linter.unusedVariables false
set_option linter.unusedSimpArgs false
/-! VCY6 -/
set_option maxRecDepth 100000
set_option linter.unusedVariables false
namespace Go.Proofs
open Go Go.Ev
-- elP
end Go.Proofs
/-! CY6 -/
set_option maxRecDepth 100000
set_option linter.unusedVariables false
namespace Go.Proofs
open Go Go.Ev
section
section
variable {Rd : Rnd} {y : Nat} {jE : Option Code} {hsE : List (Option HB)} {k : KontR} (hstop : ∀ jc e s, s.hs.take 6 = hsE → jE = some jc → k .ret e s ⟨some jc, 0⟩)
include hstop
end
end
end Go.Proofs
/-! VC87 -/
set_option maxRecDepth 100000
set_option linter.unusedVariables false
-- elP
namespace Go.Proofs
open Go Go.Ev
def kdV (rs : List Rul) (x : Prf × Prf) : Int := kindV (decV rs x.1 x.2).1 (decV rs x.1 x.2).2
def isDiff (rs ss : List Rul) (x : Prf × Prf) : Bool := kdV rs x != kdV ss x
def diffV (rs ss : List Rul) : Wit := foundW (csL.find? (isDiff rs ss)) (kdV rs) (kdV ss)
def sameV (rs ss : List Rul) : Wit := if chk rs = 0 then (if chk ss = 0 then { diffV rs ss with f := !(diffV rs ss).f, e := 0 } else errW (chk ss)) else errW (chk rs)
end Go.Proofs
/-! C87 -/
set_option maxRecDepth 100000
set_option linter.unusedVariables false
namespace Go.Proofs
open Go Go.Ev
/-! The first case that two lists of rules decide differently. -/
section
attribute [local irreducible] wpC wpF
def Wit.two (w : Wit) : CR := .ret (.tup [.agg (encW w.p w.q w.a w.b), Bo w.f])
end
section
attribute [local irreducible] csL caseAt
variable {rs ss : List Rul} (hrs : okRs rs) (hss : okRs ss) {Q : CR → Prop}
include hrs hss
end
/-! Same. -/
section
attribute [local irreducible] csL diffV chk
end
end Go.Proofs
