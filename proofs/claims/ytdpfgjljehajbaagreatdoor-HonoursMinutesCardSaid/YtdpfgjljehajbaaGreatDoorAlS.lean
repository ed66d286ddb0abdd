/- alive returns true: a piece of its evaluation by the kernel. -/
import Derived.Test.YtdpfgjljehajbaaGreatDoorAlO13
import Derived.Test.YtdpfgjljehajbaaGreatDoorAlO14
import Derived.Test.YtdpfgjljehajbaaGreatDoorAlO15
import Derived.Test.YtdpfgjljehajbaaGreatDoorAlO16
import Derived.Test.YtdpfgjljehajbaaGreatDoorAlO17
set_option linter.unusedVariables false
set_option linter.unusedSimpArgs false
set_option maxRecDepth 100000
namespace Go.Proofs
open Go Go.Ev
def Tryz.ME:Memo:=[(42,Tryz.m13a,Tryz.m13r),(42,Tryz.m14a,Tryz.m14r),(42,Tryz.m15a,Tryz.m15r),(42,Tryz.m16a,Tryz.m16r),(42,Tryz.m17a,Tryz.m17r)]
theorem Tryz.MEok:MemoOk Tryz.C3 Tryz.ME:=MemoOk.cons ⟨_,_,Tryz.func42,rfl⟩ Tryz.m13ok (MemoOk.cons ⟨_,_,Tryz.func42,rfl⟩ Tryz.m14ok (MemoOk.cons ⟨_,_,Tryz.func42,rfl⟩ Tryz.m15ok (MemoOk.cons ⟨_,_,Tryz.func42,rfl⟩ Tryz.m16ok (MemoOk.cons ⟨_,_,Tryz.func42,rfl⟩ Tryz.m17ok (MemoOk.nil _)))))
def Tryz.hAll:AV:=match Tryz.m18a with | [h,_,_]=>h | _=>.bad
theorem Tryz.sampleRun:(z3y (Tryz.C3.memo Tryz.ME) 400).call 77 [] St.nil=some (.ret (.tup [Tryz.hAll,.bool true]),St.nil):=by kernel_rfl
theorem Tryz.sampleOk:CallOk Tryz.C3 77 [] St.nil (.ret (.tup [Tryz.hAll,.bool true])) St.nil:=z1t (C:=Tryz.C3.memo Tryz.ME) (x0b Tryz.c3ok Tryz.gtp3 Tryz.MEok) (x21 Tryz.c3w Tryz.gtp3 Tryz.MEok) Tryz.sampleRun
end Go.Proofs
