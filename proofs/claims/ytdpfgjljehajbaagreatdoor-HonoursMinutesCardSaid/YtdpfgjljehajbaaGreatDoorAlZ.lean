/- alive returns true: a piece of its evaluation by the kernel. -/
import Derived.Test.YtdpfgjljehajbaaGreatDoorAlS
import Derived.Test.YtdpfgjljehajbaaGreatDoorAlT
import Derived.Test.YtdpfgjljehajbaaGreatDoorAlO18
import Derived.Test.YtdpfgjljehajbaaGreatDoorAlO19
import Derived.Test.YtdpfgjljehajbaaGreatDoorAlO20
import Derived.Test.YtdpfgjljehajbaaGreatDoorAlO21
import Derived.Test.YtdpfgjljehajbaaGreatDoorAlO22
import Derived.Test.YtdpfgjljehajbaaGreatDoorAlO23
import Derived.Test.YtdpfgjljehajbaaGreatDoorAlO24
set_option linter.unusedVariables false
set_option linter.unusedSimpArgs false
set_option maxRecDepth 100000
namespace Go.Proofs
open Go Go.Ev
def Tryz.MA:Memo:=[(77,[],.ret (.tup [Tryz.hAll,.bool true])),(54,tlA,.ret tlR),(27,Tryz.m18a,Tryz.m18r),(29,Tryz.m19a,Tryz.m19r),(31,Tryz.m20a,Tryz.m20r),(33,Tryz.m21a,Tryz.m21r),(60,Tryz.m22a,Tryz.m22r),(49,Tryz.m23a,Tryz.m23r),(36,Tryz.m24a,Tryz.m24r)]
theorem Tryz.MAok:MemoOk Tryz.C3 Tryz.MA:=MemoOk.cons ⟨_,_,Tryz.func77,rfl⟩ Tryz.sampleOk (MemoOk.cons ⟨_,_,Tryz.func54,rfl⟩ Tryz.tlOk (MemoOk.cons ⟨_,_,Tryz.func27,rfl⟩ Tryz.m18ok (MemoOk.cons ⟨_,_,Tryz.func29,rfl⟩ Tryz.m19ok (MemoOk.cons ⟨_,_,Tryz.func31,rfl⟩ Tryz.m20ok (MemoOk.cons ⟨_,_,Tryz.func33,rfl⟩ Tryz.m21ok (MemoOk.cons ⟨_,_,Tryz.func60,rfl⟩ Tryz.m22ok (MemoOk.cons ⟨_,_,Tryz.func49,rfl⟩ Tryz.m23ok (MemoOk.cons ⟨_,_,Tryz.func36,rfl⟩ Tryz.m24ok (MemoOk.nil _)))))))))
theorem Tryz.aliveRun:(z3y (Tryz.C3.memo Tryz.MA) 400).call 26 [] St.nil=some (.ret (.bool true),St.nil):=by kernel_rfl
theorem Tryz.aliveOk:CallOk Tryz.C3 26 [] St.nil (.ret (.bool true)) St.nil:=z1t (C:=Tryz.C3.memo Tryz.MA) (x0b Tryz.c3ok Tryz.gtp3 Tryz.MAok) (x21 Tryz.c3w Tryz.gtp3 Tryz.MAok) Tryz.aliveRun
end Go.Proofs
