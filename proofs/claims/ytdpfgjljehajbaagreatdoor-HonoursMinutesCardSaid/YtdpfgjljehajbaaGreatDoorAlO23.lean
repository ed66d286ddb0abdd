/- alive returns true: a piece of its evaluation by the kernel. -/
import Derived.Test.YtdpfgjljehajbaaGreatDoorAlD
set_option linter.unusedVariables false
set_option linter.unusedSimpArgs false
set_option maxRecDepth 100000
namespace Go.Proofs
open Go Go.Ev
theorem Tryz.m23run:(z3y Tryz.C1 400).call 49 Tryz.m23a St.nil=some (Tryz.m23r,St.nil):=by kernel_rfl
theorem Tryz.m23ok:CallOk Tryz.C1 49 Tryz.m23a St.nil Tryz.m23r St.nil:=z1t (C:=Tryz.C1) Tryz.c1ok Tryz.c1w Tryz.m23run
end Go.Proofs
