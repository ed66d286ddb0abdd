/- alive returns true: a piece of its evaluation by the kernel. -/
import Derived.Test.YtdpfgjljehajbaaGreatDoorAlD
set_option linter.unusedVariables false
set_option linter.unusedSimpArgs false
set_option maxRecDepth 100000
namespace Go.Proofs
open Go Go.Ev
theorem Tryz.m18run:(z3y Tryz.C1 400).call 27 Tryz.m18a St.nil=some (Tryz.m18r,St.nil):=by kernel_rfl
theorem Tryz.m18ok:CallOk Tryz.C1 27 Tryz.m18a St.nil Tryz.m18r St.nil:=z1t (C:=Tryz.C1) Tryz.c1ok Tryz.c1w Tryz.m18run
end Go.Proofs
