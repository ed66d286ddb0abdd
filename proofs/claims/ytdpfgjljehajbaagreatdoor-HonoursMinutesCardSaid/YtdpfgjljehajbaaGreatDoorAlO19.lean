/- alive returns true: a piece of its evaluation by the kernel. -/
import Derived.Test.YtdpfgjljehajbaaGreatDoorAlD
set_option linter.unusedVariables false
set_option linter.unusedSimpArgs false
set_option maxRecDepth 100000
namespace Go.Proofs
open Go Go.Ev
theorem Tryz.m19run:(z3y Tryz.C1 400).call 29 Tryz.m19a St.nil=some (Tryz.m19r,St.nil):=by kernel_rfl
theorem Tryz.m19ok:CallOk Tryz.C1 29 Tryz.m19a St.nil Tryz.m19r St.nil:=z1t (C:=Tryz.C1) Tryz.c1ok Tryz.c1w Tryz.m19run
end Go.Proofs
