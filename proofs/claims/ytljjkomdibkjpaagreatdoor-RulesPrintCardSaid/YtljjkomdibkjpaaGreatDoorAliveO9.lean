/- alive returns true: a piece of its evaluation by the kernel. -/
import Derived.Test.YtljjkomdibkjpaaGreatDoorAliveM
import Derived.KernelRfl
set_option linter.unusedVariables false
set_option linter.unusedSimpArgs false
/-! AliveO9 -/
set_option maxRecDepth 100000
namespace Go.Proofs
open Go Go.Ev
theorem Tryz.m9run : (levT (Tryz.C0.memo Tryz.M1) 400).call 21 Tryz.m9a St.nil = some (Tryz.m9r, St.nil) := by kernel_rfl
theorem Tryz.m9ok : CallOk Tryz.C0 21 Tryz.m9a St.nil Tryz.m9r St.nil := call_of_run (C := (Tryz.C0.memo Tryz.M1)) (memo_ok Tryz.c0ok Tryz.gtp Tryz.M1ok) (memo_w Tryz.c0w Tryz.gtp Tryz.M1ok) Tryz.m9run
end Go.Proofs
