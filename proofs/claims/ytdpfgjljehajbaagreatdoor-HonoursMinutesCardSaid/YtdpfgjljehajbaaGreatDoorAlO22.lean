/- alive returns true: a piece of its evaluation by the kernel. -/
import Derived.Test.YtdpfgjljehajbaaGreatDoorAlD
set_option linter.unusedVariables false
set_option linter.unusedSimpArgs false
set_option maxRecDepth 100000
namespace Go.Proofs
open Go Go.Ev
theorem Tryz.m22run:(z3y Tryz.C1 400).call 60 Tryz.m22a St.nil=some (Tryz.m22r,St.nil):=by kernel_rfl
theorem Tryz.m22ok:CallOk Tryz.C1 60 Tryz.m22a St.nil Tryz.m22r St.nil:=z1t (C:=Tryz.C1) Tryz.c1ok Tryz.c1w Tryz.m22run
end Go.Proofs
