/- Contracts of functions of the program and of the reference. -/
import Derived.Test.YtljjkomdibkjpaaGreatDoorK14
import Derived.Test.YtljjkomdibkjpaaGreatDoorK10
import Derived.Test.YtljjkomdibkjpaaGreatDoorK17
set_option linter.unusedVariables false
set_option linter.unusedSimpArgs false
set_option maxRecDepth 100000
set_option linter.unusedVariables false
namespace Go.Proofs
open Go Go.Ev
end Go.Proofs
set_option maxRecDepth 100000
set_option linter.unusedVariables false
-- elP Wit
namespace Go.Proofs
open Go Go.Ev
end Go.Proofs
set_option maxRecDepth 100000
set_option linter.unusedVariables false
namespace Go.Proofs
open Go Go.Ev
theorem Sim.eqP {p q p' q':Prf} (h:Sim p q p' q') (he:eqP p' q' = true):eqP p q = true:=by
 obtain ⟨a1,a2,a3,a4,a5⟩:=h.a
 obtain ⟨b1,b2,b3,b4,b5⟩:=h.b
 unfold Go.Proofs.eqP at he ⊢
 rw [a1,a2,a3,a4,a5,b1,b2,b3,b4,b5] at he
 simp only [Bool.and_eq_true,beq_iff_eq,and_true] at he ⊢
 obtain ⟨e1,e2,e3,e4,e5,e6,e7⟩:=he
 have:=h.c
 have:=h.l
 exact ⟨e1,e2,e3,e4,e5,by omega,by omega⟩
section
variable {rs ss:List Rul} (hw:z1h rs) (hw2:z1h ss) {p q:Prf}
end
section
attribute [local irreducible] csL
variable {rs ss:List Rul} (hw:z1h rs) (hw2:z1h ss) {p q:Prf} (hc:chk rs = 0) (hc2:chk ss = 0) (hp:pOk p = 0) (hq:pOk q = 0)
include hw hc hp hq
include hw2 hc2
end
section
attribute [local irreducible] csL z2b chk z3v z6k z3d wpC wpF
variable {rs ss:List Rul} (hw:z1h rs) (hw2:z1h ss) {p q:Prf} (hc:chk rs = 0) (hc2:chk ss = 0) (hp:pOk p = 0) (hq:pOk q = 0)
include hw hw2 hc hc2
include hp hq
end
section
attribute [local irreducible] csL z2b chk z3v z6k z3d wpC wpF
end
end Go.Proofs
