/- alive returns true: a piece of its evaluation by the kernel. -/
import Derived.Test.YtdpfgjljehajbaaGreatDoorAlT0
set_option linter.unusedVariables false
set_option linter.unusedSimpArgs false
set_option maxRecDepth 100000
namespace Go.Proofs
open Go.Ev Go.Shelf Go.RowKit Go.Maps Go.Sort
theorem tl1:evL Tryz.C3 sf3 (x7r++[p54]) (tlA++List.replicate (Tryz.f54.ntmps-tlA.length) .bad) St.nil=some (E5,S5):=by kernel_rfl
end Go.Proofs
