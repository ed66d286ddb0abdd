/- alive returns true: a piece of its evaluation by the kernel. -/
import Derived.Test.YtljjkomdibkjpaaGreatDoorAliveM
import Derived.KernelRfl
set_option linter.unusedVariables false
set_option linter.unusedSimpArgs false
set_option maxRecDepth 100000
namespace Go.Proofs
open Go Go.Ev
theorem Tryz.m8run:(z6e Tryz.C0 400).call 28 Tryz.m8a St.nil = some (Tryz.m8r,St.nil):=by kernel_rfl
theorem Tryz.m8ok:CallOk Tryz.C0 28 Tryz.m8a St.nil Tryz.m8r St.nil:=z5l (C:=Tryz.C0) Tryz.c0ok Tryz.c0w Tryz.m8run
end Go.Proofs
