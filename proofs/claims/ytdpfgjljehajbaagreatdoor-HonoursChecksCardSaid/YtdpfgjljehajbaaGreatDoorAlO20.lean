/- alive returns true: a piece of its evaluation by the kernel. -/
import Derived.Test.YtdpfgjljehajbaaGreatDoorAlD
import Derived.KernelRfl
set_option linter.unusedVariables false
set_option linter.unusedSimpArgs false
/-! AlO20 -/
set_option maxRecDepth 100000
namespace Go.Proofs
open Go Go.Ev
theorem Tryz.m20run : (levT Tryz.C1 400).call 31 Tryz.m20a St.nil = some (Tryz.m20r, St.nil) := by kernel_rfl
theorem Tryz.m20ok : CallOk Tryz.C1 31 Tryz.m20a St.nil Tryz.m20r St.nil := call_of_run (C := Tryz.C1) Tryz.c1ok Tryz.c1w Tryz.m20run
end Go.Proofs
