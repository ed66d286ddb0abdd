/- alive returns true: a piece of its evaluation by the kernel. -/
import Derived.Test.YtdpfgjljehajbaaGreatDoorAlD
set_option linter.unusedVariables false
set_option linter.unusedSimpArgs false
set_option maxRecDepth 100000
namespace Go.Proofs
open Go Go.Ev
theorem Tryz.m21run:(z3y Tryz.C1 400).call 33 Tryz.m21a St.nil=some (Tryz.m21r,St.nil):=by kernel_rfl
theorem Tryz.m21ok:CallOk Tryz.C1 33 Tryz.m21a St.nil Tryz.m21r St.nil:=z1t (C:=Tryz.C1) Tryz.c1ok Tryz.c1w Tryz.m21run
end Go.Proofs
