/- alive returns true: a piece of its evaluation by the kernel. -/
import Derived.Test.YtljjkomdibkjpaaGreatDoorAliveM
import Derived.KernelRfl
set_option linter.unusedVariables false
set_option linter.unusedSimpArgs false
set_option maxRecDepth 100000
namespace Go.Proofs
open Go Go.Ev
theorem Tryz.m5run:(z6e (Tryz.C0.memo Tryz.M1) 400).call 21 Tryz.m5a St.nil = some (Tryz.m5r,St.nil):=by kernel_rfl
theorem Tryz.m5ok:CallOk Tryz.C0 21 Tryz.m5a St.nil Tryz.m5r St.nil:=z5l (C:=(Tryz.C0.memo Tryz.M1)) (y7b Tryz.c0ok Tryz.gtp Tryz.M1ok) (y9o Tryz.c0w Tryz.gtp Tryz.M1ok) Tryz.m5run
end Go.Proofs
