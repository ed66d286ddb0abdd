/- alive returns true: a piece of its evaluation by the kernel. -/
import Derived.Test.YtdpfgjljehajbaaGreatDoorAlD
set_option linter.unusedVariables false
set_option linter.unusedSimpArgs false
set_option maxRecDepth 100000
namespace Go.Proofs
open Go Go.Ev
theorem Tryz.m15run:(z3y Tryz.C3 400).call 42 Tryz.m15a St.nil=some (Tryz.m15r,St.nil):=by kernel_rfl
theorem Tryz.m15ok:CallOk Tryz.C3 42 Tryz.m15a St.nil Tryz.m15r St.nil:=z1t (C:=Tryz.C3) Tryz.c3ok Tryz.c3w Tryz.m15run
end Go.Proofs
