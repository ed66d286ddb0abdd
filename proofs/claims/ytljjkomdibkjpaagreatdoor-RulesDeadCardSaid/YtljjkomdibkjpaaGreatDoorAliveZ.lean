/- alive returns true: a piece of its evaluation by the kernel. -/
import Derived.Test.YtljjkomdibkjpaaGreatDoorAliveO5
import Derived.Test.YtljjkomdibkjpaaGreatDoorAliveO6
import Derived.Test.YtljjkomdibkjpaaGreatDoorAliveO7
import Derived.Test.YtljjkomdibkjpaaGreatDoorAliveO8
import Derived.Test.YtljjkomdibkjpaaGreatDoorAliveO9
import Derived.KernelRfl
set_option linter.unusedVariables false
set_option linter.unusedSimpArgs false
set_option maxRecDepth 100000
set_option linter.unusedVariables false
namespace Go.Proofs
open Go Go.Ev
def Tryz.M2:Memo:=[(21,Tryz.m5a,Tryz.m5r),(25,Tryz.m6a,Tryz.m6r),(28,Tryz.m7a,Tryz.m7r),(28,Tryz.m8a,Tryz.m8r),(21,Tryz.m9a,Tryz.m9r)]
theorem Tryz.M2ok:MemoOk Tryz.C0 Tryz.M2:=MemoOk.cons ⟨_,_,Tryz.func21,rfl⟩ Tryz.m5ok (MemoOk.cons ⟨_,_,Tryz.func25,rfl⟩ Tryz.m6ok (MemoOk.cons ⟨_,_,Tryz.func28,rfl⟩ Tryz.m7ok (MemoOk.cons ⟨_,_,Tryz.func28,rfl⟩ Tryz.m8ok (MemoOk.cons ⟨_,_,Tryz.func21,rfl⟩ Tryz.m9ok (MemoOk.nil _)))))
theorem Tryz.aliveRun:(z6e (Tryz.C0.memo Tryz.M2) 400).call 20 [] St.nil = some (.ret (.bool true),St.nil):=by kernel_rfl
theorem Tryz.aliveOk:CallOk Tryz.C0 20 [] St.nil (.ret (.bool true)) St.nil:=z5l (C:=Tryz.C0.memo Tryz.M2) (y7b Tryz.c0ok Tryz.gtp Tryz.M2ok) (y9o Tryz.c0w Tryz.gtp Tryz.M2ok) Tryz.aliveRun
end Go.Proofs
