/- alive returns true: a piece of its evaluation by the kernel. -/
import Derived.Test.YtljjkomdibkjpaaGreatDoorAliveD
import Derived.KernelRfl
set_option linter.unusedVariables false
set_option linter.unusedSimpArgs false
set_option maxRecDepth 100000
namespace Go.Proofs
open Go Go.Ev
theorem Tryz.m3run:z9u Tryz.C0 (z6e Tryz.C0 400) (lev Tryz.C0 400) 59 Tryz.m3a St.nil = some (Tryz.m3r,St.nil):=by kernel_rfl
theorem Tryz.m3ok:CallOk Tryz.C0 59 Tryz.m3a St.nil Tryz.m3r St.nil:=z7h Tryz.c0ok Tryz.c0w Tryz.m3run
end Go.Proofs
