/- alive returns true: a piece of its evaluation by the kernel. -/
import Derived.Test.YtdpfgjljehajbaaGreatDoorAlT0
set_option linter.unusedVariables false
set_option linter.unusedSimpArgs false
set_option maxRecDepth 100000
namespace Go.Proofs
open Go.Ev Go.Shelf Go.RowKit Go.Maps Go.Sort
theorem tl3 (l:Nat):x0o Tryz.C3 sf3 (y0q Tryz.C3 sf3 #[29] x1w y9g E5) 400 Tryz.f164 c164 [] CB S5 l=some (none,S6,[l,l,l,l,l,l]):=by kernel_rfl
end Go.Proofs
