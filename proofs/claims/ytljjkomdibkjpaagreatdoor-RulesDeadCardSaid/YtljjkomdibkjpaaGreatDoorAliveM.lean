/- alive returns true: a piece of its evaluation by the kernel. -/
import Derived.Test.YtljjkomdibkjpaaGreatDoorAliveL0
import Derived.Test.YtljjkomdibkjpaaGreatDoorAliveL1
import Derived.Test.YtljjkomdibkjpaaGreatDoorAliveL2
import Derived.Test.YtljjkomdibkjpaaGreatDoorAliveL3
import Derived.Test.YtljjkomdibkjpaaGreatDoorAliveL4
set_option linter.unusedVariables false
set_option linter.unusedSimpArgs false
set_option maxRecDepth 100000
set_option linter.unusedVariables false
namespace Go.Proofs
open Go Go.Ev
def Tryz.M1:Memo:=[(59,Tryz.m0a,Tryz.m0r),(59,Tryz.m1a,Tryz.m1r),(59,Tryz.m2a,Tryz.m2r),(59,Tryz.m3a,Tryz.m3r),(59,Tryz.m4a,Tryz.m4r)]
theorem Tryz.M1ok:MemoOk Tryz.C0 Tryz.M1:=MemoOk.cons ⟨_,_,Tryz.func59,rfl⟩ Tryz.m0ok (MemoOk.cons ⟨_,_,Tryz.func59,rfl⟩ Tryz.m1ok (MemoOk.cons ⟨_,_,Tryz.func59,rfl⟩ Tryz.m2ok (MemoOk.cons ⟨_,_,Tryz.func59,rfl⟩ Tryz.m3ok (MemoOk.cons ⟨_,_,Tryz.func59,rfl⟩ Tryz.m4ok (MemoOk.nil _)))))
end Go.Proofs
