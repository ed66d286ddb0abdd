/- Contracts of functions of the program and of the reference. -/
import Derived.Test.YtdpfgjljehajbaaGreatDoorK2
import Derived.Test.YtdpfgjljehajbaaGreatDoorKD
set_option linter.unusedVariables false
set_option linter.unusedSimpArgs false
set_option maxRecDepth 100000
set_option linter.unusedVariables false
set_option linter.unusedSimpArgs false
namespace Go.Ev
end Go.Ev
namespace Go.Proofs
open Go Go.Ev
def R132:Spc:=fun args=>match args with
 | [.int .i64 n]=>some (True,rB (decide (1 ≤ n) && decide (n ≤ 1000000)))
 | _=>none
def x5z:List (Nat × List Nat):=[]
noncomputable def Tryz.X132:WCx:=Tryz.B.wcx [] x5z [] [] []
def w2o:List (Nat × List Nat):=[(3,[0,1,2,8,11,12,13]),(8,[0,8])]
noncomputable def Tryz.X64:WCx:=Tryz.B.wcx [] w2o [] [] [(3,0)]
theorem w1z (n:Int) (Q:CR→Prop):wpF Tryz.X132 132 [I n] Q =
 (cIf (decide (n ≥ (1:Int))) (Q (CR.ret (Bo (decide (n ≤ (1000000:Int)))))) (Q (CR.ret (Bo false)))):=by kernel_rfl
theorem v64 (l:List AV) (len:Nat) (st day:Int) (Q:CR→Prop):wpF Tryz.X64 64 [.vs l len .none,I st,I day] Q =
 (cIf (noHL 0 ([AV.vs l len Tok.none,I st,I day,X,X,X,X,X,I (-1),X,X,AV.vs l len Tok.none,I len,I 0]++List.replicate 37 X)) (z0l Tryz.X64 (cd Tryz.X64.P 64 [1,1,0,1,0,0]) ([AV.vs l len Tok.none,I st,I day,X,X,X,X,X,I (-1),X,X,AV.vs l len Tok.none,I len,I 0]++List.replicate 37 X) (St.mk [] [] []) (z0g 0 (z0k Tryz.X64 (cd Tryz.X64.P 64 [1,1,1]) (z0q Tryz.X64 64 Q)))) False):=by kernel_rfl
end Go.Proofs
set_option maxRecDepth 100000
set_option linter.unusedVariables false
set_option linter.unusedSimpArgs false
namespace Go.Proofs
open Go Go.Ev
theorem x1j:Ct Tryz.B.c0 132 R132:=Ct.of_wp (lm:=x5z) Tryz.bok (Cts.nil _) ⟨_,_,Tryz.func132,rfl⟩ fun args D r hR hD=>by
 unfold R132 at hR
 split at hR <;> cases hR
 refine ⟨rfl,(w1z _ _).mpr ?_⟩
 repeat' (refine z0i (fun h=>?_) (fun h=>?_))
 all_goals (apply y06; simp at *; omega)
section
variable {xs:List Tun} (hlen:xs.length ≤ 1000) {st day:Int}
include hlen
end
section
variable {xs:List Tun} (hlen:xs.length ≤ 1000) (hok:∀ t ∈ xs,okU t)
include hlen hok
end
end Go.Proofs
