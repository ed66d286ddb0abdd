/- alive returns true: a piece of its evaluation by the kernel. -/
import Derived.Test.YtljjkomdibkjpaaGreatDoorAliveD
import Derived.KernelRfl
set_option linter.unusedVariables false
set_option linter.unusedSimpArgs false
/-! AliveL3 -/
set_option maxRecDepth 100000
namespace Go.Proofs
open Go Go.Ev
theorem Tryz.m3run : callDT Tryz.C0 (levT Tryz.C0 400) (lev Tryz.C0 400) 59 Tryz.m3a St.nil = some (Tryz.m3r, St.nil) := by kernel_rfl
theorem Tryz.m3ok : CallOk Tryz.C0 59 Tryz.m3a St.nil Tryz.m3r St.nil := call_of_runD Tryz.c0ok Tryz.c0w Tryz.m3run
end Go.Proofs
