/- alive returns true: a piece of its evaluation by the kernel. -/
import Derived.Test.YtdpfgjljehajbaaGreatDoorAlD
set_option linter.unusedVariables false
set_option linter.unusedSimpArgs false
set_option maxRecDepth 100000
namespace Go.Proofs
open Go Go.Ev
theorem Tryz.m20run:(z3y Tryz.C1 400).call 31 Tryz.m20a St.nil=some (Tryz.m20r,St.nil):=by kernel_rfl
theorem Tryz.m20ok:CallOk Tryz.C1 31 Tryz.m20a St.nil Tryz.m20r St.nil:=z1t (C:=Tryz.C1) Tryz.c1ok Tryz.c1w Tryz.m20run
end Go.Proofs
