/- An evaluator of the model, part 4b: deferred calls by the kernel. -/
import Derived.Test.YtdpfgjljehajbaaGreatDoorE4
set_option linter.unusedVariables false
set_option linter.unusedSimpArgs false
namespace Go.Ev

end Go.Ev
