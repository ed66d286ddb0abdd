/- Contracts of functions of the program and of the reference. -/
import Derived.Test.YtljjkomdibkjpaaGreatDoorK12
import Derived.Test.YtljjkomdibkjpaaGreatDoorE6
import Derived.Test.YtljjkomdibkjpaaGreatDoorK14
import Derived.Test.YtljjkomdibkjpaaGreatDoorK15
set_option linter.unusedVariables false
set_option linter.unusedSimpArgs false
set_option maxRecDepth 100000
set_option linter.unusedVariables false
namespace Go.Proofs
open Go Go.Ev
-- elP
end Go.Proofs
set_option maxRecDepth 100000
set_option linter.unusedVariables false
namespace Go.Proofs
open Go Go.Ev
section
section
variable {Rd:Rnd} {y:Nat} {jE:Option Code} {hsE:List (Option HB)} {k:KontR} (hstop:∀ jc e s,s.hs.take 6 = hsE→jE = some jc→k .ret e s ⟨some jc,0⟩)
include hstop
end
end
end Go.Proofs
set_option maxRecDepth 100000
set_option linter.unusedVariables false
-- elP
namespace Go.Proofs
open Go Go.Ev
def kdV (rs:List Rul) (x:Prf × Prf):Int:=z01 (z2c rs x.1 x.2).1 (z2c rs x.1 x.2).2
def z96 (rs ss:List Rul) (x:Prf × Prf):Bool:=kdV rs x != kdV ss x
def z2b (rs ss:List Rul):Wit:=y3y (csL.find? (z96 rs ss)) (kdV rs) (kdV ss)
def y4h (l:List AV) (len:Nat):Prop:=∃ rs,l = z0c rs∧len = rs.length∧z1j rs∧∀ x ∈ rs,shT x.t = true
def z3d (rs ss:List Rul):Wit:=if chk rs = 0 then (if chk ss = 0 then { z2b rs ss with f:=!(z2b rs ss).f,e:=0 } else y8k (chk ss)) else y8k (chk rs)
end Go.Proofs
set_option maxRecDepth 100000
set_option linter.unusedVariables false
namespace Go.Proofs
open Go Go.Ev
section
attribute [local irreducible] wpC wpF
def Wit.two (w:Wit):CR:=.ret (.tup [.agg (z1r w.p w.q w.a w.b),Bo w.f])
end
section
attribute [local irreducible] csL z2i
variable {rs ss:List Rul} (hrs:z1j rs) (hss:z1j ss) {Q:CR→Prop}
include hrs hss
end
section
attribute [local irreducible] csL z2b chk
end
end Go.Proofs
