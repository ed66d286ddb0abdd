/- Contracts of functions of the program and of the reference. -/
import Derived.Test.YtljjkomdibkjpaaGreatDoorK1
set_option linter.unusedVariables false
set_option linter.unusedSimpArgs false
set_option maxRecDepth 100000
set_option linter.unusedVariables false
namespace Go.Proofs
open Go Go.Ev
def z95 (op attr:Int) (len:Nat) (mk lo od nu pl sd:Bool):Bool :=
 if op = 1 then decide (attr = 0) && pl && decide (len = 0)
 else if op = 2 ∨ op = 3 then (lo || od) && pl && decide (len = 0)
 else if op = 4 then (lo || od || mk) && pl && decide (len = 0)
 else if op = 5 then (lo || mk) && sd && nu && decide (len = 0)
 else if op = 6 then lo && sd && nu && decide (len = 0)
 else if op = 7 then decide (attr = 0) && pl && decide (len = 1)
 else if op = 8 ∨ op = 9 then decide (attr = 0) && pl && decide (2 ≤ len)
 else false
def z99 (op attr side n:Int) (len:Nat):Bool :=
 z95 op attr len (decide (3 ≤ attr) && decide (attr ≤ 5)) (decide (attr = 1) || decide (attr = 2)) (decide (attr = 6) || decide (attr = 7)) (y3h attr n) (decide (side = 0) && decide (n = 0)) (decide (side = 1) || decide (side = 2))
mutual
def shT:Tst→Bool
 | .mk op attr side n of=>z99 op attr side n of.length && z5z of
def z5z:List Tst→Bool
 | []=>true
 | t :: l=>shT t && z5z l
end
noncomputable def R114:Spc:=fun args=>match args with
 | [.agg l]=>some (∃ t,l = z0m t∧wfT t,rB (z0g z0m shT false l))
 | _=>none
def x7y:List (Nat × List Nat):=[(6,[1,3,4,5,6,7]),(7,[1,3,4,5,6,7,8]),(25,[1,9]),(26,[1,9,10]),(29,[9])]
noncomputable def Tryz.X114 (m:Nat):WCx:=Tryz.B.wcx [(114,R114.below m),(116,R116),(152,R152),(153,R153),(154,R154)] x7y [] [6,7,25]
theorem w67 (m:Nat) (op attr side n:Int) (l:List AV) (len:Nat) (Q:CR→Prop):wpF (Tryz.X114 m) 114 [.agg [U op,U attr,U side,I n,.vs l len .none]] Q =
 (True∧True∧True∧True∧cIf (side == (0:Int)) (z0k (Tryz.X114 m) (cd (Tryz.X114 m).P 114 [1,1,1,1,1,1]) ([X,AV.ptr 0 0,X,Bo (decide ((3:Int) ≤ attr) && decide (attr ≤ (5:Int))),Bo (decide (attr = (1:Int)) || decide (attr = (2:Int))),Bo (decide (attr = (6:Int)) || decide (attr = (7:Int))),Bo (y3h attr n),Bo (n == (0:Int))]++List.replicate 162 X) (St.mk [some (HB.cells [U op,U attr,U side,I n,AV.vs l len Tok.none] 71)] [] []) (z0f (Tryz.X114 m) 114 Q)) (z0k (Tryz.X114 m) (cd (Tryz.X114 m).P 114 [1,1,1,1,1,1]) ([X,AV.ptr 0 0,X,Bo (decide ((3:Int) ≤ attr) && decide (attr ≤ (5:Int))),Bo (decide (attr = (1:Int)) || decide (attr = (2:Int))),Bo (decide (attr = (6:Int)) || decide (attr = (7:Int))),Bo (y3h attr n),Bo false]++List.replicate 162 X) (St.mk [some (HB.cells [U op,U attr,U side,I n,AV.vs l len Tok.none] 71)] [] []) (z0f (Tryz.X114 m) 114 Q))):=by kernel_rfl
theorem w3e (m:Nat) (op attr side n:Int) (l:List AV) (len:Nat) (mk lo od nu pl:Bool) (Q:CR→Prop):wpC (Tryz.X114 m) (cd PP 114 [1,1,1,1,1,1]) ([X,.ptr 0 0,X,Bo mk,Bo lo,Bo od,Bo nu,Bo pl]++List.replicate 162 X) ⟨[some (.cells [U op,U attr,U side,I n,.vs l len .none] 71)],[],[]⟩ (z0f (Tryz.X114 m) 114 Q) =
 (cIf (side == (1:Int)) (z0k (Tryz.X114 m) (cd PP 114 [1,1,1,1,1,1,1]) ([X,AV.ptr 0 0,X,Bo mk,Bo lo,Bo od,Bo nu,Bo pl,Bo true]++List.replicate 161 X) (St.mk [some (HB.cells [U op,U attr,U side,I n,AV.vs l len Tok.none] 71)] [] []) (z0f (Tryz.X114 m) 114 Q)) (z0k (Tryz.X114 m) (cd PP 114 [1,1,1,1,1,1,1]) ([X,AV.ptr 0 0,X,Bo mk,Bo lo,Bo od,Bo nu,Bo pl,Bo (side == (2:Int))]++List.replicate 161 X) (St.mk [some (HB.cells [U op,U attr,U side,I n,AV.vs l len Tok.none] 71)] [] []) (z0f (Tryz.X114 m) 114 Q))):=by kernel_rfl
theorem w3d (m:Nat) (op attr side n:Int) (l:List AV) (len:Nat) (mk lo od nu pl sd:Bool) (Q:CR→Prop):wpC (Tryz.X114 m) (cd PP 114 [1,1,1,1,1,1,1]) ([X,.ptr 0 0,X,Bo mk,Bo lo,Bo od,Bo nu,Bo pl,Bo sd]++List.replicate 161 X) ⟨[some (.cells [U op,U attr,U side,I n,.vs l len .none] 71)],[],[]⟩ (z0f (Tryz.X114 m) 114 Q) =
 (cIf (op == (1:Int)) (cIf (attr == (0:Int)) (cIf pl (z0k (Tryz.X114 m) (cd PP 114 [1,1,1,1,1,1,1,1,1]) ([X,AV.ptr 0 0,X,X,X,X,X,X,X,Bo ((↑len:Int) == (0:Int))]++List.replicate 160 X) (St.mk [some (HB.cells [U op,U attr,U side,I n,AV.vs l len Tok.none] 71)] [] []) (z0f (Tryz.X114 m) 114 Q)) (z0k (Tryz.X114 m) (cd PP 114 [1,1,1,1,1,1,1,1,1]) ([X,AV.ptr 0 0,X,X,X,X,X,X,X,Bo false]++List.replicate 160 X) (St.mk [some (HB.cells [U op,U attr,U side,I n,AV.vs l len Tok.none] 71)] [] []) (z0f (Tryz.X114 m) 114 Q))) (z0k (Tryz.X114 m) (cd PP 114 [1,1,1,1,1,1,1,1,1]) ([X,AV.ptr 0 0,X,X,X,X,X,X,X,Bo false]++List.replicate 160 X) (St.mk [some (HB.cells [U op,U attr,U side,I n,AV.vs l len Tok.none] 71)] [] []) (z0f (Tryz.X114 m) 114 Q))) (cIf (op == (2:Int)) (cIf (op == (2:Int)) (cIf lo (cIf pl (z0k (Tryz.X114 m) (cd PP 114 [1,1,1,1,1,1,1,1,1]) ([X,AV.ptr 0 0,X,X,X,X,X,X,X,Bo ((↑len:Int) == (0:Int))]++List.replicate 160 X) (St.mk [some (HB.cells [U op,U attr,U side,I n,AV.vs l len Tok.none] 71)] [] []) (z0f (Tryz.X114 m) 114 Q)) (z0k (Tryz.X114 m) (cd PP 114 [1,1,1,1,1,1,1,1,1]) ([X,AV.ptr 0 0,X,X,X,X,X,X,X,Bo false]++List.replicate 160 X) (St.mk [some (HB.cells [U op,U attr,U side,I n,AV.vs l len Tok.none] 71)] [] []) (z0f (Tryz.X114 m) 114 Q))) (cIf od (cIf pl (z0k (Tryz.X114 m) (cd PP 114 [1,1,1,1,1,1,1,1,1]) ([X,AV.ptr 0 0,X,X,X,X,X,X,X,Bo ((↑len:Int) == (0:Int))]++List.replicate 160 X) (St.mk [some (HB.cells [U op,U attr,U side,I n,AV.vs l len Tok.none] 71)] [] []) (z0f (Tryz.X114 m) 114 Q)) (z0k (Tryz.X114 m) (cd PP 114 [1,1,1,1,1,1,1,1,1]) ([X,AV.ptr 0 0,X,X,X,X,X,X,X,Bo false]++List.replicate 160 X) (St.mk [some (HB.cells [U op,U attr,U side,I n,AV.vs l len Tok.none] 71)] [] []) (z0f (Tryz.X114 m) 114 Q))) (z0k (Tryz.X114 m) (cd PP 114 [1,1,1,1,1,1,1,1,1]) ([X,AV.ptr 0 0,X,X,X,X,X,X,X,Bo false]++List.replicate 160 X) (St.mk [some (HB.cells [U op,U attr,U side,I n,AV.vs l len Tok.none] 71)] [] []) (z0f (Tryz.X114 m) 114 Q)))) (cIf (op == (4:Int)) (cIf lo (cIf pl (z0k (Tryz.X114 m) (cd PP 114 [1,1,1,1,1,1,1,1,1]) ([X,AV.ptr 0 0,X,X,X,X,X,X,X,Bo ((↑len:Int) == (0:Int))]++List.replicate 160 X) (St.mk [some (HB.cells [U op,U attr,U side,I n,AV.vs l len Tok.none] 71)] [] []) (z0f (Tryz.X114 m) 114 Q)) (z0k (Tryz.X114 m) (cd PP 114 [1,1,1,1,1,1,1,1,1]) ([X,AV.ptr 0 0,X,X,X,X,X,X,X,Bo false]++List.replicate 160 X) (St.mk [some (HB.cells [U op,U attr,U side,I n,AV.vs l len Tok.none] 71)] [] []) (z0f (Tryz.X114 m) 114 Q))) (cIf od (cIf pl (z0k (Tryz.X114 m) (cd PP 114 [1,1,1,1,1,1,1,1,1]) ([X,AV.ptr 0 0,X,X,X,X,X,X,X,Bo ((↑len:Int) == (0:Int))]++List.replicate 160 X) (St.mk [some (HB.cells [U op,U attr,U side,I n,AV.vs l len Tok.none] 71)] [] []) (z0f (Tryz.X114 m) 114 Q)) (z0k (Tryz.X114 m) (cd PP 114 [1,1,1,1,1,1,1,1,1]) ([X,AV.ptr 0 0,X,X,X,X,X,X,X,Bo false]++List.replicate 160 X) (St.mk [some (HB.cells [U op,U attr,U side,I n,AV.vs l len Tok.none] 71)] [] []) (z0f (Tryz.X114 m) 114 Q))) (cIf mk (cIf pl (z0k (Tryz.X114 m) (cd PP 114 [1,1,1,1,1,1,1,1,1]) ([X,AV.ptr 0 0,X,X,X,X,X,X,X,Bo ((↑len:Int) == (0:Int))]++List.replicate 160 X) (St.mk [some (HB.cells [U op,U attr,U side,I n,AV.vs l len Tok.none] 71)] [] []) (z0f (Tryz.X114 m) 114 Q)) (z0k (Tryz.X114 m) (cd PP 114 [1,1,1,1,1,1,1,1,1]) ([X,AV.ptr 0 0,X,X,X,X,X,X,X,Bo false]++List.replicate 160 X) (St.mk [some (HB.cells [U op,U attr,U side,I n,AV.vs l len Tok.none] 71)] [] []) (z0f (Tryz.X114 m) 114 Q))) (z0k (Tryz.X114 m) (cd PP 114 [1,1,1,1,1,1,1,1,1]) ([X,AV.ptr 0 0,X,X,X,X,X,X,X,Bo false]++List.replicate 160 X) (St.mk [some (HB.cells [U op,U attr,U side,I n,AV.vs l len Tok.none] 71)] [] []) (z0f (Tryz.X114 m) 114 Q))))) (cIf (op == (5:Int)) (cIf lo (cIf sd (cIf nu (z0k (Tryz.X114 m) (cd PP 114 [1,1,1,1,1,1,1,1,1]) ([X,AV.ptr 0 0,X,X,X,X,X,X,X,Bo ((↑len:Int) == (0:Int))]++List.replicate 160 X) (St.mk [some (HB.cells [U op,U attr,U side,I n,AV.vs l len Tok.none] 71)] [] []) (z0f (Tryz.X114 m) 114 Q)) (z0k (Tryz.X114 m) (cd PP 114 [1,1,1,1,1,1,1,1,1]) ([X,AV.ptr 0 0,X,X,X,X,X,X,X,Bo false]++List.replicate 160 X) (St.mk [some (HB.cells [U op,U attr,U side,I n,AV.vs l len Tok.none] 71)] [] []) (z0f (Tryz.X114 m) 114 Q))) (z0k (Tryz.X114 m) (cd PP 114 [1,1,1,1,1,1,1,1,1]) ([X,AV.ptr 0 0,X,X,X,X,X,X,X,Bo false]++List.replicate 160 X) (St.mk [some (HB.cells [U op,U attr,U side,I n,AV.vs l len Tok.none] 71)] [] []) (z0f (Tryz.X114 m) 114 Q))) (cIf mk (cIf sd (cIf nu (z0k (Tryz.X114 m) (cd PP 114 [1,1,1,1,1,1,1,1,1]) ([X,AV.ptr 0 0,X,X,X,X,X,X,X,Bo ((↑len:Int) == (0:Int))]++List.replicate 160 X) (St.mk [some (HB.cells [U op,U attr,U side,I n,AV.vs l len Tok.none] 71)] [] []) (z0f (Tryz.X114 m) 114 Q)) (z0k (Tryz.X114 m) (cd PP 114 [1,1,1,1,1,1,1,1,1]) ([X,AV.ptr 0 0,X,X,X,X,X,X,X,Bo false]++List.replicate 160 X) (St.mk [some (HB.cells [U op,U attr,U side,I n,AV.vs l len Tok.none] 71)] [] []) (z0f (Tryz.X114 m) 114 Q))) (z0k (Tryz.X114 m) (cd PP 114 [1,1,1,1,1,1,1,1,1]) ([X,AV.ptr 0 0,X,X,X,X,X,X,X,Bo false]++List.replicate 160 X) (St.mk [some (HB.cells [U op,U attr,U side,I n,AV.vs l len Tok.none] 71)] [] []) (z0f (Tryz.X114 m) 114 Q))) (z0k (Tryz.X114 m) (cd PP 114 [1,1,1,1,1,1,1,1,1]) ([X,AV.ptr 0 0,X,X,X,X,X,X,X,Bo false]++List.replicate 160 X) (St.mk [some (HB.cells [U op,U attr,U side,I n,AV.vs l len Tok.none] 71)] [] []) (z0f (Tryz.X114 m) 114 Q)))) (cIf (op == (6:Int)) (cIf lo (cIf sd (cIf nu (z0k (Tryz.X114 m) (cd PP 114 [1,1,1,1,1,1,1,1,1]) ([X,AV.ptr 0 0,X,X,X,X,X,X,X,Bo ((↑len:Int) == (0:Int))]++List.replicate 160 X) (St.mk [some (HB.cells [U op,U attr,U side,I n,AV.vs l len Tok.none] 71)] [] []) (z0f (Tryz.X114 m) 114 Q)) (z0k (Tryz.X114 m) (cd PP 114 [1,1,1,1,1,1,1,1,1]) ([X,AV.ptr 0 0,X,X,X,X,X,X,X,Bo false]++List.replicate 160 X) (St.mk [some (HB.cells [U op,U attr,U side,I n,AV.vs l len Tok.none] 71)] [] []) (z0f (Tryz.X114 m) 114 Q))) (z0k (Tryz.X114 m) (cd PP 114 [1,1,1,1,1,1,1,1,1]) ([X,AV.ptr 0 0,X,X,X,X,X,X,X,Bo false]++List.replicate 160 X) (St.mk [some (HB.cells [U op,U attr,U side,I n,AV.vs l len Tok.none] 71)] [] []) (z0f (Tryz.X114 m) 114 Q))) (z0k (Tryz.X114 m) (cd PP 114 [1,1,1,1,1,1,1,1,1]) ([X,AV.ptr 0 0,X,X,X,X,X,X,X,Bo false]++List.replicate 160 X) (St.mk [some (HB.cells [U op,U attr,U side,I n,AV.vs l len Tok.none] 71)] [] []) (z0f (Tryz.X114 m) 114 Q))) (cIf (op == (7:Int)) (cIf (attr == (0:Int)) (cIf pl (z0k (Tryz.X114 m) (cd PP 114 [1,1,1,1,1,1,1,1,1]) ([X,AV.ptr 0 0,X,X,X,X,X,X,X,Bo ((↑len:Int) == (1:Int))]++List.replicate 160 X) (St.mk [some (HB.cells [U op,U attr,U side,I n,AV.vs l len Tok.none] 71)] [] []) (z0f (Tryz.X114 m) 114 Q)) (z0k (Tryz.X114 m) (cd PP 114 [1,1,1,1,1,1,1,1,1]) ([X,AV.ptr 0 0,X,X,X,X,X,X,X,Bo false]++List.replicate 160 X) (St.mk [some (HB.cells [U op,U attr,U side,I n,AV.vs l len Tok.none] 71)] [] []) (z0f (Tryz.X114 m) 114 Q))) (z0k (Tryz.X114 m) (cd PP 114 [1,1,1,1,1,1,1,1,1]) ([X,AV.ptr 0 0,X,X,X,X,X,X,X,Bo false]++List.replicate 160 X) (St.mk [some (HB.cells [U op,U attr,U side,I n,AV.vs l len Tok.none] 71)] [] []) (z0f (Tryz.X114 m) 114 Q))) (cIf (op == (8:Int)) (cIf (op == (8:Int)) (cIf (attr == (0:Int)) (cIf pl (z0k (Tryz.X114 m) (cd PP 114 [1,1,1,1,1,1,1,1,1]) ([X,AV.ptr 0 0,X,X,X,X,X,X,X,Bo (decide ((↑len:Int) ≥ (2:Int)))]++List.replicate 160 X) (St.mk [some (HB.cells [U op,U attr,U side,I n,AV.vs l len Tok.none] 71)] [] []) (z0f (Tryz.X114 m) 114 Q)) (z0k (Tryz.X114 m) (cd PP 114 [1,1,1,1,1,1,1,1,1]) ([X,AV.ptr 0 0,X,X,X,X,X,X,X,Bo false]++List.replicate 160 X) (St.mk [some (HB.cells [U op,U attr,U side,I n,AV.vs l len Tok.none] 71)] [] []) (z0f (Tryz.X114 m) 114 Q))) (z0k (Tryz.X114 m) (cd PP 114 [1,1,1,1,1,1,1,1,1]) ([X,AV.ptr 0 0,X,X,X,X,X,X,X,Bo false]++List.replicate 160 X) (St.mk [some (HB.cells [U op,U attr,U side,I n,AV.vs l len Tok.none] 71)] [] []) (z0f (Tryz.X114 m) 114 Q))) (z0k (Tryz.X114 m) (cd PP 114 [1,1,1,1,1,1,1,1,1]) ([X,AV.ptr 0 0,X,X,X,X,X,X,X,Bo false]++List.replicate 160 X) (St.mk [some (HB.cells [U op,U attr,U side,I n,AV.vs l len Tok.none] 71)] [] []) (z0f (Tryz.X114 m) 114 Q))) (cIf (op == (9:Int)) (cIf (attr == (0:Int)) (cIf pl (z0k (Tryz.X114 m) (cd PP 114 [1,1,1,1,1,1,1,1,1]) ([X,AV.ptr 0 0,X,X,X,X,X,X,X,Bo (decide ((↑len:Int) ≥ (2:Int)))]++List.replicate 160 X) (St.mk [some (HB.cells [U op,U attr,U side,I n,AV.vs l len Tok.none] 71)] [] []) (z0f (Tryz.X114 m) 114 Q)) (z0k (Tryz.X114 m) (cd PP 114 [1,1,1,1,1,1,1,1,1]) ([X,AV.ptr 0 0,X,X,X,X,X,X,X,Bo false]++List.replicate 160 X) (St.mk [some (HB.cells [U op,U attr,U side,I n,AV.vs l len Tok.none] 71)] [] []) (z0f (Tryz.X114 m) 114 Q))) (z0k (Tryz.X114 m) (cd PP 114 [1,1,1,1,1,1,1,1,1]) ([X,AV.ptr 0 0,X,X,X,X,X,X,X,Bo false]++List.replicate 160 X) (St.mk [some (HB.cells [U op,U attr,U side,I n,AV.vs l len Tok.none] 71)] [] []) (z0f (Tryz.X114 m) 114 Q))) (z0k (Tryz.X114 m) (cd PP 114 [1,1,1,1,1,1,1,1,1]) ([X,AV.ptr 0 0,X,X,X,X,X,X,X,Bo false]++List.replicate 160 X) (St.mk [some (HB.cells [U op,U attr,U side,I n,AV.vs l len Tok.none] 71)] [] []) (z0f (Tryz.X114 m) 114 Q))))))))) (cIf (op == (3:Int)) (cIf lo (cIf pl (z0k (Tryz.X114 m) (cd PP 114 [1,1,1,1,1,1,1,1,1]) ([X,AV.ptr 0 0,X,X,X,X,X,X,X,Bo ((↑len:Int) == (0:Int))]++List.replicate 160 X) (St.mk [some (HB.cells [U op,U attr,U side,I n,AV.vs l len Tok.none] 71)] [] []) (z0f (Tryz.X114 m) 114 Q)) (z0k (Tryz.X114 m) (cd PP 114 [1,1,1,1,1,1,1,1,1]) ([X,AV.ptr 0 0,X,X,X,X,X,X,X,Bo false]++List.replicate 160 X) (St.mk [some (HB.cells [U op,U attr,U side,I n,AV.vs l len Tok.none] 71)] [] []) (z0f (Tryz.X114 m) 114 Q))) (cIf od (cIf pl (z0k (Tryz.X114 m) (cd PP 114 [1,1,1,1,1,1,1,1,1]) ([X,AV.ptr 0 0,X,X,X,X,X,X,X,Bo ((↑len:Int) == (0:Int))]++List.replicate 160 X) (St.mk [some (HB.cells [U op,U attr,U side,I n,AV.vs l len Tok.none] 71)] [] []) (z0f (Tryz.X114 m) 114 Q)) (z0k (Tryz.X114 m) (cd PP 114 [1,1,1,1,1,1,1,1,1]) ([X,AV.ptr 0 0,X,X,X,X,X,X,X,Bo false]++List.replicate 160 X) (St.mk [some (HB.cells [U op,U attr,U side,I n,AV.vs l len Tok.none] 71)] [] []) (z0f (Tryz.X114 m) 114 Q))) (z0k (Tryz.X114 m) (cd PP 114 [1,1,1,1,1,1,1,1,1]) ([X,AV.ptr 0 0,X,X,X,X,X,X,X,Bo false]++List.replicate 160 X) (St.mk [some (HB.cells [U op,U attr,U side,I n,AV.vs l len Tok.none] 71)] [] []) (z0f (Tryz.X114 m) 114 Q)))) (cIf (op == (4:Int)) (cIf lo (cIf pl (z0k (Tryz.X114 m) (cd PP 114 [1,1,1,1,1,1,1,1,1]) ([X,AV.ptr 0 0,X,X,X,X,X,X,X,Bo ((↑len:Int) == (0:Int))]++List.replicate 160 X) (St.mk [some (HB.cells [U op,U attr,U side,I n,AV.vs l len Tok.none] 71)] [] []) (z0f (Tryz.X114 m) 114 Q)) (z0k (Tryz.X114 m) (cd PP 114 [1,1,1,1,1,1,1,1,1]) ([X,AV.ptr 0 0,X,X,X,X,X,X,X,Bo false]++List.replicate 160 X) (St.mk [some (HB.cells [U op,U attr,U side,I n,AV.vs l len Tok.none] 71)] [] []) (z0f (Tryz.X114 m) 114 Q))) (cIf od (cIf pl (z0k (Tryz.X114 m) (cd PP 114 [1,1,1,1,1,1,1,1,1]) ([X,AV.ptr 0 0,X,X,X,X,X,X,X,Bo ((↑len:Int) == (0:Int))]++List.replicate 160 X) (St.mk [some (HB.cells [U op,U attr,U side,I n,AV.vs l len Tok.none] 71)] [] []) (z0f (Tryz.X114 m) 114 Q)) (z0k (Tryz.X114 m) (cd PP 114 [1,1,1,1,1,1,1,1,1]) ([X,AV.ptr 0 0,X,X,X,X,X,X,X,Bo false]++List.replicate 160 X) (St.mk [some (HB.cells [U op,U attr,U side,I n,AV.vs l len Tok.none] 71)] [] []) (z0f (Tryz.X114 m) 114 Q))) (cIf mk (cIf pl (z0k (Tryz.X114 m) (cd PP 114 [1,1,1,1,1,1,1,1,1]) ([X,AV.ptr 0 0,X,X,X,X,X,X,X,Bo ((↑len:Int) == (0:Int))]++List.replicate 160 X) (St.mk [some (HB.cells [U op,U attr,U side,I n,AV.vs l len Tok.none] 71)] [] []) (z0f (Tryz.X114 m) 114 Q)) (z0k (Tryz.X114 m) (cd PP 114 [1,1,1,1,1,1,1,1,1]) ([X,AV.ptr 0 0,X,X,X,X,X,X,X,Bo false]++List.replicate 160 X) (St.mk [some (HB.cells [U op,U attr,U side,I n,AV.vs l len Tok.none] 71)] [] []) (z0f (Tryz.X114 m) 114 Q))) (z0k (Tryz.X114 m) (cd PP 114 [1,1,1,1,1,1,1,1,1]) ([X,AV.ptr 0 0,X,X,X,X,X,X,X,Bo false]++List.replicate 160 X) (St.mk [some (HB.cells [U op,U attr,U side,I n,AV.vs l len Tok.none] 71)] [] []) (z0f (Tryz.X114 m) 114 Q))))) (cIf (op == (5:Int)) (cIf lo (cIf sd (cIf nu (z0k (Tryz.X114 m) (cd PP 114 [1,1,1,1,1,1,1,1,1]) ([X,AV.ptr 0 0,X,X,X,X,X,X,X,Bo ((↑len:Int) == (0:Int))]++List.replicate 160 X) (St.mk [some (HB.cells [U op,U attr,U side,I n,AV.vs l len Tok.none] 71)] [] []) (z0f (Tryz.X114 m) 114 Q)) (z0k (Tryz.X114 m) (cd PP 114 [1,1,1,1,1,1,1,1,1]) ([X,AV.ptr 0 0,X,X,X,X,X,X,X,Bo false]++List.replicate 160 X) (St.mk [some (HB.cells [U op,U attr,U side,I n,AV.vs l len Tok.none] 71)] [] []) (z0f (Tryz.X114 m) 114 Q))) (z0k (Tryz.X114 m) (cd PP 114 [1,1,1,1,1,1,1,1,1]) ([X,AV.ptr 0 0,X,X,X,X,X,X,X,Bo false]++List.replicate 160 X) (St.mk [some (HB.cells [U op,U attr,U side,I n,AV.vs l len Tok.none] 71)] [] []) (z0f (Tryz.X114 m) 114 Q))) (cIf mk (cIf sd (cIf nu (z0k (Tryz.X114 m) (cd PP 114 [1,1,1,1,1,1,1,1,1]) ([X,AV.ptr 0 0,X,X,X,X,X,X,X,Bo ((↑len:Int) == (0:Int))]++List.replicate 160 X) (St.mk [some (HB.cells [U op,U attr,U side,I n,AV.vs l len Tok.none] 71)] [] []) (z0f (Tryz.X114 m) 114 Q)) (z0k (Tryz.X114 m) (cd PP 114 [1,1,1,1,1,1,1,1,1]) ([X,AV.ptr 0 0,X,X,X,X,X,X,X,Bo false]++List.replicate 160 X) (St.mk [some (HB.cells [U op,U attr,U side,I n,AV.vs l len Tok.none] 71)] [] []) (z0f (Tryz.X114 m) 114 Q))) (z0k (Tryz.X114 m) (cd PP 114 [1,1,1,1,1,1,1,1,1]) ([X,AV.ptr 0 0,X,X,X,X,X,X,X,Bo false]++List.replicate 160 X) (St.mk [some (HB.cells [U op,U attr,U side,I n,AV.vs l len Tok.none] 71)] [] []) (z0f (Tryz.X114 m) 114 Q))) (z0k (Tryz.X114 m) (cd PP 114 [1,1,1,1,1,1,1,1,1]) ([X,AV.ptr 0 0,X,X,X,X,X,X,X,Bo false]++List.replicate 160 X) (St.mk [some (HB.cells [U op,U attr,U side,I n,AV.vs l len Tok.none] 71)] [] []) (z0f (Tryz.X114 m) 114 Q)))) (cIf (op == (6:Int)) (cIf lo (cIf sd (cIf nu (z0k (Tryz.X114 m) (cd PP 114 [1,1,1,1,1,1,1,1,1]) ([X,AV.ptr 0 0,X,X,X,X,X,X,X,Bo ((↑len:Int) == (0:Int))]++List.replicate 160 X) (St.mk [some (HB.cells [U op,U attr,U side,I n,AV.vs l len Tok.none] 71)] [] []) (z0f (Tryz.X114 m) 114 Q)) (z0k (Tryz.X114 m) (cd PP 114 [1,1,1,1,1,1,1,1,1]) ([X,AV.ptr 0 0,X,X,X,X,X,X,X,Bo false]++List.replicate 160 X) (St.mk [some (HB.cells [U op,U attr,U side,I n,AV.vs l len Tok.none] 71)] [] []) (z0f (Tryz.X114 m) 114 Q))) (z0k (Tryz.X114 m) (cd PP 114 [1,1,1,1,1,1,1,1,1]) ([X,AV.ptr 0 0,X,X,X,X,X,X,X,Bo false]++List.replicate 160 X) (St.mk [some (HB.cells [U op,U attr,U side,I n,AV.vs l len Tok.none] 71)] [] []) (z0f (Tryz.X114 m) 114 Q))) (z0k (Tryz.X114 m) (cd PP 114 [1,1,1,1,1,1,1,1,1]) ([X,AV.ptr 0 0,X,X,X,X,X,X,X,Bo false]++List.replicate 160 X) (St.mk [some (HB.cells [U op,U attr,U side,I n,AV.vs l len Tok.none] 71)] [] []) (z0f (Tryz.X114 m) 114 Q))) (cIf (op == (7:Int)) (cIf (attr == (0:Int)) (cIf pl (z0k (Tryz.X114 m) (cd PP 114 [1,1,1,1,1,1,1,1,1]) ([X,AV.ptr 0 0,X,X,X,X,X,X,X,Bo ((↑len:Int) == (1:Int))]++List.replicate 160 X) (St.mk [some (HB.cells [U op,U attr,U side,I n,AV.vs l len Tok.none] 71)] [] []) (z0f (Tryz.X114 m) 114 Q)) (z0k (Tryz.X114 m) (cd PP 114 [1,1,1,1,1,1,1,1,1]) ([X,AV.ptr 0 0,X,X,X,X,X,X,X,Bo false]++List.replicate 160 X) (St.mk [some (HB.cells [U op,U attr,U side,I n,AV.vs l len Tok.none] 71)] [] []) (z0f (Tryz.X114 m) 114 Q))) (z0k (Tryz.X114 m) (cd PP 114 [1,1,1,1,1,1,1,1,1]) ([X,AV.ptr 0 0,X,X,X,X,X,X,X,Bo false]++List.replicate 160 X) (St.mk [some (HB.cells [U op,U attr,U side,I n,AV.vs l len Tok.none] 71)] [] []) (z0f (Tryz.X114 m) 114 Q))) (cIf (op == (8:Int)) (cIf (op == (8:Int)) (cIf (attr == (0:Int)) (cIf pl (z0k (Tryz.X114 m) (cd PP 114 [1,1,1,1,1,1,1,1,1]) ([X,AV.ptr 0 0,X,X,X,X,X,X,X,Bo (decide ((↑len:Int) ≥ (2:Int)))]++List.replicate 160 X) (St.mk [some (HB.cells [U op,U attr,U side,I n,AV.vs l len Tok.none] 71)] [] []) (z0f (Tryz.X114 m) 114 Q)) (z0k (Tryz.X114 m) (cd PP 114 [1,1,1,1,1,1,1,1,1]) ([X,AV.ptr 0 0,X,X,X,X,X,X,X,Bo false]++List.replicate 160 X) (St.mk [some (HB.cells [U op,U attr,U side,I n,AV.vs l len Tok.none] 71)] [] []) (z0f (Tryz.X114 m) 114 Q))) (z0k (Tryz.X114 m) (cd PP 114 [1,1,1,1,1,1,1,1,1]) ([X,AV.ptr 0 0,X,X,X,X,X,X,X,Bo false]++List.replicate 160 X) (St.mk [some (HB.cells [U op,U attr,U side,I n,AV.vs l len Tok.none] 71)] [] []) (z0f (Tryz.X114 m) 114 Q))) (z0k (Tryz.X114 m) (cd PP 114 [1,1,1,1,1,1,1,1,1]) ([X,AV.ptr 0 0,X,X,X,X,X,X,X,Bo false]++List.replicate 160 X) (St.mk [some (HB.cells [U op,U attr,U side,I n,AV.vs l len Tok.none] 71)] [] []) (z0f (Tryz.X114 m) 114 Q))) (cIf (op == (9:Int)) (cIf (attr == (0:Int)) (cIf pl (z0k (Tryz.X114 m) (cd PP 114 [1,1,1,1,1,1,1,1,1]) ([X,AV.ptr 0 0,X,X,X,X,X,X,X,Bo (decide ((↑len:Int) ≥ (2:Int)))]++List.replicate 160 X) (St.mk [some (HB.cells [U op,U attr,U side,I n,AV.vs l len Tok.none] 71)] [] []) (z0f (Tryz.X114 m) 114 Q)) (z0k (Tryz.X114 m) (cd PP 114 [1,1,1,1,1,1,1,1,1]) ([X,AV.ptr 0 0,X,X,X,X,X,X,X,Bo false]++List.replicate 160 X) (St.mk [some (HB.cells [U op,U attr,U side,I n,AV.vs l len Tok.none] 71)] [] []) (z0f (Tryz.X114 m) 114 Q))) (z0k (Tryz.X114 m) (cd PP 114 [1,1,1,1,1,1,1,1,1]) ([X,AV.ptr 0 0,X,X,X,X,X,X,X,Bo false]++List.replicate 160 X) (St.mk [some (HB.cells [U op,U attr,U side,I n,AV.vs l len Tok.none] 71)] [] []) (z0f (Tryz.X114 m) 114 Q))) (z0k (Tryz.X114 m) (cd PP 114 [1,1,1,1,1,1,1,1,1]) ([X,AV.ptr 0 0,X,X,X,X,X,X,X,Bo false]++List.replicate 160 X) (St.mk [some (HB.cells [U op,U attr,U side,I n,AV.vs l len Tok.none] 71)] [] []) (z0f (Tryz.X114 m) 114 Q))))))))))):=by kernel_rfl
theorem w3c (m:Nat) (op attr side n:Int) (l:List AV) (len:Nat) (ok:Bool) (Q:CR→Prop):wpC (Tryz.X114 m) (cd PP 114 [1,1,1,1,1,1,1,1,1]) ([X,.ptr 0 0,X,X,X,X,X,X,X,Bo ok]++List.replicate 160 X) ⟨[some (.cells [U op,U attr,U side,I n,.vs l len .none] 71)],[],[]⟩ (z0f (Tryz.X114 m) 114 Q) =
 (z0l (Tryz.X114 m) (cd PP 114 [1,1,1,1,1,1,1,1,1,0,1,0,0]) ([X,AV.ptr 0 0,X,X,X,X,X,X,X,Bo ok,I 0]++List.replicate 159 X) (St.mk [some (HB.cells [U op,U attr,U side,I n,AV.vs l len Tok.none] 71)] [] []) (z0d 1 (z0i (Tryz.X114 m) (cd PP 114 [1,1,1,1,1,1,1,1,1,1]) (z0f (Tryz.X114 m) 114 Q)))):=by kernel_rfl
theorem x7o (m:Nat) (op attr side n:Int) (l:List AV) (len i:Nat) (ok:Bool) (Q:CR→Prop):wpC (Tryz.X114 m) (cd PP 114 [1,1,1,1,1,1,1,1,1,0,1,0,0]) ([X,.ptr 0 0,X,X,X,X,X,X,X,Bo ok,I i]++List.replicate 159 X) ⟨[some (.cells [U op,U attr,U side,I n,.vs l len .none] 71)],[],[]⟩ (z0r (Tryz.X114 m) (cd PP 114 [1,1,1,1,1,1,1,1,1,0,1,0,0]) (z0d 1 (z0i (Tryz.X114 m) (cd PP 114 [1,1,1,1,1,1,1,1,1,1]) (z0f (Tryz.X114 m) 114 Q)))) =
 (cIf (decide ((↑i:Int) < (↑len:Int))) (cIf ok (cIf (decide (i < len)) (cIf (decide (len * 5 = l.length)) (cIf (decide (5 ≤ (List.drop (i * 5) l).length)) (cIf (like zT (el (List.drop (i * 5) l) 0 5)) (((∃ (t:Tst),(elT (el (List.drop (i * 5) l) 0 5)) = z0m t∧wfT t)∧z0o ([]++[AV.agg (elT (el (List.drop (i * 5) l) 0 5))]++[]) < m)∧z0l (Tryz.X114 m) (cd PP 114 [1,1,1,1,1,1,1,1,1,0,1,0,0]) ([X,AV.ptr 0 0,X,X,X,X,X,X,X,AV.bool (z0g z0m shT false (elT (el (List.drop (i * 5) l) 0 5))),I (IntKind.i64.wrap ((↑i:Int) + (1:Int)))]++List.replicate 159 X) (St.mk [some (HB.cells [U op,U attr,U side,I n,AV.vs l len Tok.none] 71)] [] []) (z0d 1 (z0i (Tryz.X114 m) (cd PP 114 [1,1,1,1,1,1,1,1,1,1]) (z0f (Tryz.X114 m) 114 Q)))) False) False) False) False) (Q (CR.ret (Bo ok)))) (Q (CR.ret (Bo ok)))):=by kernel_rfl
end Go.Proofs
set_option maxRecDepth 100000
set_option linter.unusedVariables false
namespace Go.Proofs
open Go Go.Ev
section
variable {m:Nat} (hc:Cts Tryz.B [(114,R114.below m),(116,R116),(152,R152),(153,R153),(154,R154)]) {op attr side n:Int} {of:List Tst} (hlen:of.length ≤ 9223372036854775807) (hwf:z6p of) (hsz:z0o (z0q of) + 3 ≤ m) {Q:CR→Prop}
include hc hlen hwf hsz
set_option maxHeartbeats 2000000 in
theorem x38:∀ (d i:Nat) (ok:Bool),of.length - i = d→i ≤ of.length→Q (rB (ok && z5z (of.drop i))) →
      z0l (Tryz.X114 m) (cd PP 114 [1,1,1,1,1,1,1,1,1,0,1,0,0]) ([X,.ptr 0 0,X,X,X,X,X,X,X,Bo ok,I i]++List.replicate 159 X) ⟨[some (.cells [U op,U attr,U side,I n,.vs (z0q of) of.length .none] 71)],[],[]⟩ (z0d 1 (z0i (Tryz.X114 m) (cd PP 114 [1,1,1,1,1,1,1,1,1,1]) (z0f (Tryz.X114 m) 114 Q))):=by
  intro d
  induction d with
  | zero =>
    intro i ok hd hi hQ
    have hi':i = of.length:=by omega
    subst hi'
    refine z1b Tryz.bok hc ((x7o m op attr side n _ _ _ ok Q).mpr (z0p (by simp) ?_))
    simpa [z5z] using hQ
  | succ d ih =>
    intro i ok hd hi hQ
    have hlt:i < of.length:=by omega
    obtain ⟨x,hx,hdr⟩:=z1p hlt
    rw [hdr] at hQ
    refine z1b Tryz.bok hc ((x7o m op attr side n _ _ _ ok Q).mpr (z0b (by simp; omega) (z0h (fun h2=>?_) (fun h2=>?_))))
    · subst h2
      refine z0b (by simpa using hlt) (z0b (by simp [z1n]) (z0b (by have:=z03 (z1n of) hlt; simpa using this) ?_))
      rw [z6x hx,z6m]
      have hs:=z5y hx
      refine z0b (z2w x) ⟨⟨⟨x,rfl,z6u hwf hx⟩,?_⟩,?_⟩
      · simp only [List.nil_append,List.append_nil,z0o,z2q]
        omega
      · rw [z0j (fun _ _=>z1a _ _),z09 (x:=(i:Int) + 1) (by omega) (by omega)]
        refine ih (i + 1) _ (by omega) (by omega) ?_
        simpa only [z5z,Bool.true_and] using hQ
    · subst h2
      simpa using hQ
theorem w05 (ok:Bool) (hQ:Q (rB (ok && z5z of))):z0k (Tryz.X114 m) (cd PP 114 [1,1,1,1,1,1,1,1,1]) ([X,.ptr 0 0,X,X,X,X,X,X,X,Bo ok]++List.replicate 160 X) ⟨[some (.cells [U op,U attr,U side,I n,.vs (z0q of) of.length .none] 71)],[],[]⟩ (z0f (Tryz.X114 m) 114 Q) :=
 z4e Tryz.bok hc ((w3c m op attr side n _ _ ok Q).mpr (x38 hc hlen hwf hsz _ 0 ok rfl (Nat.zero_le _) hQ))
set_option maxHeartbeats 4000000 in
theorem x39 (mk lo od nu pl sd:Bool) (hQ:Q (rB (z95 op attr of.length mk lo od nu pl sd && z5z of))):z0k (Tryz.X114 m) (cd PP 114 [1,1,1,1,1,1,1]) ([X,.ptr 0 0,X,Bo mk,Bo lo,Bo od,Bo nu,Bo pl,Bo sd]++List.replicate 161 X) ⟨[some (.cells [U op,U attr,U side,I n,.vs (z0q of) of.length .none] 71)],[],[]⟩ (z0f (Tryz.X114 m) 114 Q):=by
 refine z4e Tryz.bok hc ((w3d m op attr side n _ _ mk lo od nu pl sd Q).mpr ?_)
 repeat' (refine z0h (fun h=>?_) (fun h=>?_))
 all_goals (refine w05 hc hlen hwf hsz _ ((congrArg Q (z2r (b:=z95 op attr of.length mk lo od nu pl sd && z5z of) ?_)).mpr hQ); simp only [beq_iff_eq,beq_eq_false_iff_ne,ne_eq] at *; simp [z95, *]; try omega)
theorem x4a (mk lo od nu pl:Bool) (hQ:Q (rB (z95 op attr of.length mk lo od nu pl (decide (side = 1) || decide (side = 2)) && z5z of))):z0k (Tryz.X114 m) (cd PP 114 [1,1,1,1,1,1]) ([X,.ptr 0 0,X,Bo mk,Bo lo,Bo od,Bo nu,Bo pl]++List.replicate 162 X) ⟨[some (.cells [U op,U attr,U side,I n,.vs (z0q of) of.length .none] 71)],[],[]⟩ (z0f (Tryz.X114 m) 114 Q):=by
 refine z4e Tryz.bok hc ((w3e m op attr side n _ _ mk lo od nu pl Q).mpr ?_)
 refine z0h (fun h=>?_) (fun h=>?_)
 ·simp only [beq_iff_eq] at h
  refine x39 hc hlen hwf hsz mk lo od nu pl true ?_
  simpa [h] using hQ
 ·simp only [beq_eq_false_iff_ne,ne_eq] at h
  refine x39 hc hlen hwf hsz mk lo od nu pl (side == 2) ?_
  rw [show (side == 2) = decide (side = 2) from rfl]
  simpa [h] using hQ
end
theorem w4l:Ct Tryz.B.c0 114 R114:=Ct.of_rec (lm:=x7y) (ct:=[6,7,25]) Tryz.bok (((((Cts.nil _).cons w4b).cons w4c).cons w4d).cons w4k) ⟨_,_,Tryz.func114,rfl⟩ fun m args D r hc hR hD hm=>by
 unfold R114 at hR
 split at hR <;> cases hR
 obtain ⟨⟨op,attr,side,k,of⟩,rfl,hw⟩:=hD
 simp only [wfT] at hw
 refine ⟨by simp [noHL,noH,z1k],?_⟩
 rw [show z0e 0 [AV.agg (z0m (.mk op attr side k of))] = [AV.agg (z0m (.mk op attr side k of))] by simp [z0e,scrub,z3q]]
 rw [z0j (fun _ _=>z1a _ _)]
 have hsz:z0o (z0q of) + 3 ≤ m:=by simp only [z0o,z2q,z0m] at hm; omega
 refine (w67 m op attr side k _ _ _).mpr ⟨trivial,trivial,trivial,trivial,z0h (fun h=>?_) (fun h=>?_)⟩
 ·simp only [beq_iff_eq] at h
  refine x4a hc hw.2.2.2.2.2.2.2.2.1 hw.2.2.2.2.2.2.2.2.2 hsz _ _ _ _ _ ?_
  simp [shT,z99,h]
  rfl
 ·simp only [beq_eq_false_iff_ne,ne_eq] at h
  refine x4a hc hw.2.2.2.2.2.2.2.2.1 hw.2.2.2.2.2.2.2.2.2 hsz _ _ _ _ _ ?_
  simp [shT,z99,h]
end Go.Proofs
set_option maxRecDepth 100000
set_option linter.unusedVariables false
namespace Go.Ev
def y2k (b:Bool):Int:=if b = true then 1 else 0
def atI (a:Int) (p:Prf):Int :=
 if a = 1 then p.cl else if a = 2 then p.vi else if a = 3 then y2k p.ho else if a = 4 then y2k p.de else if a = 5 then y2k p.mo else if a = 6 then p.cr else if a = 7 then p.le else 0
theorem z0w (a b:Prf) (h:z0a a = z0a b):a = b:=by
 cases a; cases b
 simp only [z0a,List.cons.injEq,AV.int.injEq,AV.bool.injEq,and_true,true_and] at h
 obtain ⟨h1,h2,h3,h4,h5,h6,h7⟩:=h
 simp [h1,h2,h3,h4,h5,h6,h7]
mutual
def hoT:Tst→Prf→Prf→Bool
 | .mk op attr side n of,a,b =>
  if op = 1 then true
  else if op = 2 then decide (atI attr a < atI attr b)
  else if op = 3 then decide (atI attr a > atI attr b)
  else if op = 4 then atI attr a == atI attr b
  else if op = 5 then (if side = 2 then atI attr b else atI attr a) == n
  else if op = 6 then decide ((if side = 2 then atI attr b else atI attr a) < n)
  else hoL op of a b
def hoL:Int→List Tst→Prf→Prf→Bool
 | op,[],a,b=>decide (op = 8)
 | op,t :: l,a,b=>if op = 7 then !hoT t a b else if op = 8∧hoT t a b = false ∨ op = 9∧hoT t a b = true then hoT t a b else hoL op l a b
end
end Go.Ev
namespace Go.Proofs
open Go Go.Ev
noncomputable def R126:Spc:=fun args=>match args with
 | [.int .u8 a,.agg p]=>some (∃ q,p = z0a q,rI (z0g z0a (atI a) 0 p))
 | _=>none
noncomputable def R82:Spc:=fun args=>match args with
 | [.agg l,.agg p,.agg q]=>some ((∃ t,l = z0m t∧wfT t)∧(∃ a,p = z0a a)∧∃ b,q = z0a b,rB (z0g z0m (fun t=>z0g z0a (fun a=>z0g z0a (fun b=>hoT t a b) false q) false p) false l))
 | _=>none
def w1c:List (Nat × List Nat):=[(4,[3,4,5,7,8,9]),(6,[3,4,5,7,8,9]),(20,[3,4,5,10]),(27,[3])]
noncomputable def Tryz.X82 (m:Nat):WCx:=Tryz.B.wcx [(82,R82.below m),(126,R126)] w1c [] [6]
theorem w6z (a:Int) (p:Prf) (Q:CR→Prop):wpF Tryz.X0 126 [U a,.agg (z0a p)] Q =
 (cIf (a == (1:Int)) (Q (CR.ret (I p.cl))) (cIf (a == (2:Int)) (Q (CR.ret (I p.vi))) (cIf (a == (6:Int)) (Q (CR.ret (I p.cr))) (cIf (a == (7:Int)) (Q (CR.ret (I p.le))) (cIf (a == (3:Int)) (cIf p.ho (Q (CR.ret (I 1))) (Q (CR.ret (I 0)))) (cIf (a == (4:Int)) (cIf p.de (Q (CR.ret (I 1))) (Q (CR.ret (I 0)))) (cIf (a == (5:Int)) (cIf p.mo (Q (CR.ret (I 1))) (Q (CR.ret (I 0)))) (Q (CR.ret (I 0)))))))))):=by kernel_rfl
theorem v82 (m:Nat) (op attr side n:Int) (l:List AV) (len:Nat) (p q:Prf) (Q:CR→Prop):wpF (Tryz.X82 m) 82 [.agg [U op,U attr,U side,I n,.vs l len .none],.agg (z0a p),.agg (z0a q)] Q =
 ((∃ (q:Prf),(z0a p) = z0a q)∧(∃ (q_1:Prf),(z0a q) = z0a q_1)∧cIf (side == (2:Int)) (z0k (Tryz.X82 m) (cd (Tryz.X82 m).P 82 [1,1,1,1,1]) ([X,X,X,AV.ptr 0 0,AV.ptr 1 0,AV.ptr 2 0,X,AV.int IntKind.i64 (z0g z0a (atI attr) (0:Int) (z0a p)),AV.int IntKind.i64 (z0g z0a (atI attr) (0:Int) (z0a q)),AV.int IntKind.i64 (z0g z0a (atI attr) (0:Int) (z0a q))]++List.replicate 85 X) (St.mk [some (HB.cells [U op,U attr,U side,I n,AV.vs l len Tok.none] 71),some (HB.cells (z0a p) 40),some (HB.cells (z0a q) 40)] [] []) (z0f (Tryz.X82 m) 82 Q)) (z0k (Tryz.X82 m) (cd (Tryz.X82 m).P 82 [1,1,1,1,1]) ([X,X,X,AV.ptr 0 0,AV.ptr 1 0,AV.ptr 2 0,X,AV.int IntKind.i64 (z0g z0a (atI attr) (0:Int) (z0a p)),AV.int IntKind.i64 (z0g z0a (atI attr) (0:Int) (z0a q)),AV.int IntKind.i64 (z0g z0a (atI attr) (0:Int) (z0a p))]++List.replicate 85 X) (St.mk [some (HB.cells [U op,U attr,U side,I n,AV.vs l len Tok.none] 71),some (HB.cells (z0a p) 40),some (HB.cells (z0a q) 40)] [] []) (z0f (Tryz.X82 m) 82 Q))):=by kernel_rfl
theorem w51 (m:Nat) (op attr side n:Int) (l:List AV) (len:Nat) (p q:Prf) (a b o:Int) (Q:CR→Prop):wpC (Tryz.X82 m) (cd PP 82 [1,1,1,1,1]) ([X,X,X,.ptr 0 0,.ptr 1 0,.ptr 2 0,X,I a,I b,I o]++List.replicate 85 X) ⟨[some (.cells [U op,U attr,U side,I n,.vs l len .none] 71),some (.cells (z0a p) 40),some (.cells (z0a q) 40)],[],[]⟩ (z0f (Tryz.X82 m) 82 Q) =
 (cIf (op == (1:Int)) (Q (CR.ret (Bo true))) (cIf (op == (2:Int)) (Q (CR.ret (Bo (decide (a < b))))) (cIf (op == (3:Int)) (Q (CR.ret (Bo (decide (a > b))))) (cIf (op == (4:Int)) (Q (CR.ret (Bo (a == b)))) (cIf (op == (5:Int)) (Q (CR.ret (Bo (o == n)))) (cIf (op == (6:Int)) (Q (CR.ret (Bo (decide (o < n))))) (z0l (Tryz.X82 m) (cd PP 82 [1,1,1,1,1,1,0,1,0,0]) ([X,X,X,AV.ptr 0 0,AV.ptr 1 0,AV.ptr 2 0,X,X,X,X,I 0]++List.replicate 84 X) (St.mk [some (HB.cells [U op,U attr,U side,I n,AV.vs l len Tok.none] 71),some (HB.cells (z0a p) 40),some (HB.cells (z0a q) 40)] [] []) (z0d 1 (z0i (Tryz.X82 m) (cd PP 82 [1,1,1,1,1,1,1]) (z0f (Tryz.X82 m) 82 Q)))))))))):=by kernel_rfl
theorem x99 (m:Nat) (op attr side n:Int) (l:List AV) (len i:Nat) (p q:Prf) (Q:CR→Prop):wpC (Tryz.X82 m) (cd PP 82 [1,1,1,1,1,1,0,1,0,0]) ([X,X,X,.ptr 0 0,.ptr 1 0,.ptr 2 0,X,X,X,X,I i]++List.replicate 84 X) ⟨[some (.cells [U op,U attr,U side,I n,.vs l len .none] 71),some (.cells (z0a p) 40),some (.cells (z0a q) 40)],[],[]⟩ (z0r (Tryz.X82 m) (cd PP 82 [1,1,1,1,1,1,0,1,0,0]) (z0d 1 (z0i (Tryz.X82 m) (cd PP 82 [1,1,1,1,1,1,1]) (z0f (Tryz.X82 m) 82 Q)))) =
 (cIf (decide ((↑i:Int) < (↑len:Int))) (cIf (decide (i < len)) (cIf (decide (len * 5 = l.length)) (cIf (decide (5 ≤ (List.drop (i * 5) l).length)) (cIf (like zT (el (List.drop (i * 5) l) 0 5)) (cIf (noHL (St.mk [some (HB.cells [U op,U attr,U side,I n,AV.vs l len Tok.none] 71),some (HB.cells (z0a p) 40),some (HB.cells (z0a q) 40)] [] []).hs.length ([]++[AV.agg (elT (el (List.drop (i * 5) l) 0 5)),AV.agg (z0a p),AV.agg (z0a q)]++[])) ((((∃ (t:Tst),(elT (el (List.drop (i * 5) l) 0 5)) = z0m t∧wfT t)∧(∃ (a:Prf),(z0a p) = z0a a)∧∃ (b:Prf),(z0a q) = z0a b)∧z0o ([]++[AV.agg (elT (el (List.drop (i * 5) l) 0 5)),AV.agg (z0a p),AV.agg (z0a q)]++[]) < m)∧St.mk [some (HB.cells [U op,U attr,U side,I n,AV.vs l len Tok.none] 71),some (HB.cells (z0a p) 40),some (HB.cells (z0a q) 40)] [] [] = St.mk [some (HB.cells [U op,U attr,U side,I n,AV.vs l len Tok.none] 71),some (HB.cells (z0a p) 40),some (HB.cells (z0a q) 40)] [] []∧cIf (op == (7:Int)) (Q (CR.ret (AV.bool !z0g z0m (fun (t:Tst)=>z0g z0a (fun (a:Prf)=>z0g z0a (fun (b:Prf)=>hoT t a b) false (z0a q)) false (z0a p)) false (elT (el (List.drop (i * 5) l) 0 5))))) (cIf (op == (8:Int)) (cIf (!z0g z0m (fun (t:Tst)=>z0g z0a (fun (a:Prf)=>z0g z0a (fun (b:Prf)=>hoT t a b) false (z0a q)) false (z0a p)) false (elT (el (List.drop (i * 5) l) 0 5))) (Q (CR.ret (AV.bool (z0g z0m (fun (t:Tst)=>z0g z0a (fun (a:Prf)=>z0g z0a (fun (b:Prf)=>hoT t a b) false (z0a q)) false (z0a p)) false (elT (el (List.drop (i * 5) l) 0 5)))))) (cIf (op == (9:Int)) (cIf (z0g z0m (fun (t:Tst)=>z0g z0a (fun (a:Prf)=>z0g z0a (fun (b:Prf)=>hoT t a b) false (z0a q)) false (z0a p)) false (elT (el (List.drop (i * 5) l) 0 5))) (Q (CR.ret (AV.bool (z0g z0m (fun (t:Tst)=>z0g z0a (fun (a:Prf)=>z0g z0a (fun (b:Prf)=>hoT t a b) false (z0a q)) false (z0a p)) false (elT (el (List.drop (i * 5) l) 0 5)))))) (z0l (Tryz.X82 m) (cd PP 82 [1,1,1,1,1,1,0,1,0,0]) ([X,X,X,AV.ptr 0 0,AV.ptr 1 0,AV.ptr 2 0,X,X,X,X,I (IntKind.i64.wrap ((↑i:Int) + (1:Int)))]++List.replicate 84 X) (St.mk [some (HB.cells [U op,U attr,U side,I n,AV.vs l len Tok.none] 71),some (HB.cells (z0a p) 40),some (HB.cells (z0a q) 40)] [] []) (z0d 1 (z0i (Tryz.X82 m) (cd PP 82 [1,1,1,1,1,1,1]) (z0f (Tryz.X82 m) 82 Q))))) (z0l (Tryz.X82 m) (cd PP 82 [1,1,1,1,1,1,0,1,0,0]) ([X,X,X,AV.ptr 0 0,AV.ptr 1 0,AV.ptr 2 0,X,X,X,X,I (IntKind.i64.wrap ((↑i:Int) + (1:Int)))]++List.replicate 84 X) (St.mk [some (HB.cells [U op,U attr,U side,I n,AV.vs l len Tok.none] 71),some (HB.cells (z0a p) 40),some (HB.cells (z0a q) 40)] [] []) (z0d 1 (z0i (Tryz.X82 m) (cd PP 82 [1,1,1,1,1,1,1]) (z0f (Tryz.X82 m) 82 Q)))))) (cIf (op == (9:Int)) (cIf (z0g z0m (fun (t:Tst)=>z0g z0a (fun (a:Prf)=>z0g z0a (fun (b:Prf)=>hoT t a b) false (z0a q)) false (z0a p)) false (elT (el (List.drop (i * 5) l) 0 5))) (Q (CR.ret (AV.bool (z0g z0m (fun (t:Tst)=>z0g z0a (fun (a:Prf)=>z0g z0a (fun (b:Prf)=>hoT t a b) false (z0a q)) false (z0a p)) false (elT (el (List.drop (i * 5) l) 0 5)))))) (z0l (Tryz.X82 m) (cd PP 82 [1,1,1,1,1,1,0,1,0,0]) ([X,X,X,AV.ptr 0 0,AV.ptr 1 0,AV.ptr 2 0,X,X,X,X,I (IntKind.i64.wrap ((↑i:Int) + (1:Int)))]++List.replicate 84 X) (St.mk [some (HB.cells [U op,U attr,U side,I n,AV.vs l len Tok.none] 71),some (HB.cells (z0a p) 40),some (HB.cells (z0a q) 40)] [] []) (z0d 1 (z0i (Tryz.X82 m) (cd PP 82 [1,1,1,1,1,1,1]) (z0f (Tryz.X82 m) 82 Q))))) (z0l (Tryz.X82 m) (cd PP 82 [1,1,1,1,1,1,0,1,0,0]) ([X,X,X,AV.ptr 0 0,AV.ptr 1 0,AV.ptr 2 0,X,X,X,X,I (IntKind.i64.wrap ((↑i:Int) + (1:Int)))]++List.replicate 84 X) (St.mk [some (HB.cells [U op,U attr,U side,I n,AV.vs l len Tok.none] 71),some (HB.cells (z0a p) 40),some (HB.cells (z0a q) 40)] [] []) (z0d 1 (z0i (Tryz.X82 m) (cd PP 82 [1,1,1,1,1,1,1]) (z0f (Tryz.X82 m) 82 Q))))))) False) False) False) False) False) (Q (CR.ret (Bo (op == (8:Int)))))):=by kernel_rfl
end Go.Proofs
set_option maxRecDepth 100000
set_option linter.unusedVariables false
namespace Go.Ev
theorem z04 (n:Nat) (p:Prf):noHL n (z0a p) = true:=by simp [z0a,noHL,noH]
theorem z2u (n:Nat) (p:Prf):z0e n (z0a p) = z0a p:=by simp [z0a,z0e,scrub]
theorem z9r (p:Prf):z0o (z0a p) = 7:=by simp [z0a,z0o,z2q]
end Go.Ev
namespace Go.Proofs
open Go Go.Ev
theorem w4f:Ct Tryz.B.c0 126 R126:=Ct.of_wp (lm:=[]) Tryz.bok (Cts.nil _) ⟨_,_,Tryz.func126,rfl⟩ fun args D r hR hD=>by
 unfold R126 at hR
 split at hR <;> cases hR
 rename_i a _
 obtain ⟨p,rfl⟩:=hD
 refine ⟨by simp [noHL,noH,z04],?_⟩
 rw [show z0e 0 [U a,AV.agg (z0a p)] = [U a,AV.agg (z0a p)] by simp [z0e,scrub,z2u],z0j z0w]
 refine (w6z a p _).mpr ?_
 repeat' (refine z0h (fun h=>?_) (fun h=>?_))
 all_goals (apply x14; simp only [beq_iff_eq,beq_eq_false_iff_ne,ne_eq] at *; simp [atI,y2k, *])

section
variable {m:Nat} (hc:Cts Tryz.B [(82,R82.below m),(126,R126)]) {op attr side n:Int} {of:List Tst} (hlen:of.length ≤ 9223372036854775807) (hwf:z6p of) (hsz:z0o (z0q of) + 22 ≤ m) {p q:Prf} {Q:CR→Prop}
include hc hlen hwf hsz
set_option maxHeartbeats 2000000 in
theorem x4g:∀ (d i:Nat),of.length - i = d→i ≤ of.length→Q (rB (hoL op (of.drop i) p q)) →
  z0l (Tryz.X82 m) (cd PP 82 [1,1,1,1,1,1,0,1,0,0]) ([X,X,X,.ptr 0 0,.ptr 1 0,.ptr 2 0,X,X,X,X,I i]++List.replicate 84 X) ⟨[some (.cells [U op,U attr,U side,I n,.vs (z0q of) of.length .none] 71),some (.cells (z0a p) 40),some (.cells (z0a q) 40)],[],[]⟩ (z0d 1 (z0i (Tryz.X82 m) (cd PP 82 [1,1,1,1,1,1,1]) (z0f (Tryz.X82 m) 82 Q))):=by
 intro d
 induction d with
 | zero =>
  intro i hd hi hQ
  have hi':i = of.length:=by omega
  subst hi'
  refine z1b Tryz.bok hc ((x99 m op attr side n _ _ _ p q Q).mpr (z0p (by simp) ?_))
  rw [show (op == 8) = decide (op = 8) from rfl]
  simpa [hoL] using hQ
 | succ d ih =>
  intro i hd hi hQ
  have hlt:i < of.length:=by omega
  obtain ⟨x,hx,hdr⟩:=z1p hlt
  rw [hdr] at hQ
  refine z1b Tryz.bok hc ((x99 m op attr side n _ _ _ p q Q).mpr (z0b (by simp; omega) ?_))
  refine z0b (by simpa using hlt) (z0b (by simp [z1n]) (z0b (by have:=z03 (z1n of) hlt; simpa using this) ?_))
  rw [z6x hx,z6m]
  have hs:=z5y hx
  refine z0b (z2w x) (z0b (by simp [noHL,noH,z1k,z04]) ⟨⟨⟨⟨x,rfl,z6u hwf hx⟩,⟨p,rfl⟩,⟨q,rfl⟩⟩,?_⟩,rfl,?_⟩)
  ·simp only [List.nil_append,List.append_nil,z0o,z2q,z9r]
   omega
  ·rw [z0j (fun _ _=>z1a _ _),z0j z0w,z0j z0w,z09 (x:=(i:Int) + 1) (by omega) (by omega)]
   have next:hoL op (of.drop i) p q = hoL op (of.drop (i + 1)) p q→z0l (Tryz.X82 m) (cd PP 82 [1,1,1,1,1,1,0,1,0,0]) ([X,X,X,.ptr 0 0,.ptr 1 0,.ptr 2 0,X,X,X,X,I (i + 1:Nat)]++List.replicate 84 X) ⟨[some (.cells [U op,U attr,U side,I n,.vs (z0q of) of.length .none] 71),some (.cells (z0a p) 40),some (.cells (z0a q) 40)],[],[]⟩ (z0d 1 (z0i (Tryz.X82 m) (cd PP 82 [1,1,1,1,1,1,1]) (z0f (Tryz.X82 m) 82 Q))):=by
    intro he
    refine ih (i + 1) (by omega) (by omega) ?_
    rw [← he,hdr]; exact hQ
   rw [hdr] at next
   repeat' (refine z0h (fun h=>?_) (fun h=>?_))
   all_goals (simp only [beq_iff_eq,beq_eq_false_iff_ne,ne_eq] at *)
   all_goals (first
    | (refine next ?_; simp_all [hoL]; done)
    | (refine (congrArg Q (z2r (b:=hoL op (x :: of.drop (i + 1)) p q) ?_)).mpr hQ; simp_all [hoL]; done))
set_option maxHeartbeats 2000000 in
theorem w1l (a b o:Int) (hQ:Q (rB (if op = 1 then true
  else if op = 2 then decide (a < b)
  else if op = 3 then decide (a > b)
  else if op = 4 then a == b
  else if op = 5 then o == n
  else if op = 6 then decide (o < n)
  else hoL op of p q))):z0k (Tryz.X82 m) (cd PP 82 [1,1,1,1,1]) ([X,X,X,.ptr 0 0,.ptr 1 0,.ptr 2 0,X,I a,I b,I o]++List.replicate 85 X) ⟨[some (.cells [U op,U attr,U side,I n,.vs (z0q of) of.length .none] 71),some (.cells (z0a p) 40),some (.cells (z0a q) 40)],[],[]⟩ (z0f (Tryz.X82 m) 82 Q):=by
 refine z4e Tryz.bok hc ((w51 m op attr side n _ _ p q a b o Q).mpr ?_)
 repeat' (refine z0h (fun h=>?_) (fun h=>?_))
 all_goals (simp only [beq_iff_eq,beq_eq_false_iff_ne,ne_eq] at *)
 all_goals (first
  | (simp_all; done)
  | (refine x4g hc hlen hwf hsz _ 0 rfl (Nat.zero_le _) ?_; simp_all; done))
end
set_option maxHeartbeats 2000000 in
theorem w1s:Ct Tryz.B.c0 82 R82:=Ct.of_rec (lm:=w1c) (ct:=[6]) Tryz.bok ((Cts.nil _).cons w4f) ⟨_,_,Tryz.func82,rfl⟩ fun m args D r hc hR hD hm=>by
 unfold R82 at hR
 split at hR <;> cases hR
 obtain ⟨⟨⟨op,attr,side,k,of⟩,rfl,hw⟩,⟨p,rfl⟩,⟨q,rfl⟩⟩:=hD
 simp only [wfT] at hw
 refine ⟨by simp [noHL,noH,z1k,z04],?_⟩
 rw [show z0e 0 [AV.agg (z0m (.mk op attr side k of)),.agg (z0a p),.agg (z0a q)] = [AV.agg (z0m (.mk op attr side k of)),.agg (z0a p),.agg (z0a q)] by simp [z0e,scrub,z3q,z2u]]
 rw [z0j (fun _ _=>z1a _ _),z0j z0w,z0j z0w]
 have hsz:z0o (z0q of) + 22 ≤ m:=by simp only [z0o,z2q,z0m,z9r] at hm; omega
 refine (v82 m op attr side k _ _ p q _).mpr ⟨⟨p,rfl⟩,⟨q,rfl⟩,?_⟩
 rw [z0j z0w,z0j z0w]
 refine z0h (fun h=>?_) (fun h=>?_)
 all_goals (simp only [beq_iff_eq,beq_eq_false_iff_ne,ne_eq] at h; refine w1l hc hw.2.2.2.2.2.2.2.2.1 hw.2.2.2.2.2.2.2.2.2 hsz _ _ _ ?_; simp [hoT,h])
end Go.Proofs
set_option maxRecDepth 100000
set_option linter.unusedVariables false
namespace Go.Proofs
open Go Go.Ev
def z2h (x:Rul):Bool:=decide (1 ≤ x.rank) && decide (x.rank ≤ 99) && (decide (1 ≤ x.weight) && decide (x.weight ≤ 1000))
def z4h (t:Tst):Bool:=decide ((szR t).1 ≤ 24)
def z5j:List Rul→List Rul→Int
 | _,[]=>0
 | prev,x :: l=>if z1s x.name = false then 4 else if (prev.any fun y=>y.name == x.name) = true then 6 else if z2h x = false then 1 else if z4h x.t = false then 2 else if shT x.t = false then 1 else z5j (prev++[x]) l
def chk (rs:List Rul):Int:=if rs.length > 24 then 2 else z5j [] rs
noncomputable def R70:Spc:=fun args=>match args with
 | [.agg [.vs l len _]]=>some (∃ rs,l = z0c rs∧len = rs.length∧z1h rs,rI (z0g z0c chk 0 l))
 | _=>none
def w1f:List (Nat × List Nat):=[(4,[1,3]),(5,[1,3]),(11,[1,3,4,6]),(15,[1,3,4]),(25,[])]
noncomputable def Tryz.X70:WCx:=Tryz.B.wcx [(103,R103),(109,R109),(113,R113),(114,R114)] w1f [] [15] [(4,1),(11,2),(15,2)]
theorem v70 (l:List AV) (len:Nat) (tk:Tok) (Q:CR→Prop):wpF Tryz.X70 70 [.agg [.vs l len tk]] Q =
 (cIf (decide ((↑len:Int) > (24:Int))) (Q (CR.ret (I 2))) (cIf ([some (HB.cells [AV.vs l len tk] 25)].all (okBlk 1)) (z0l Tryz.X70 (cd Tryz.X70.P 70 [1,1,0,1,0,0]) ([X,AV.ptr 0 0,X,I 0]++List.replicate 63 X) (St.mk [some (HB.cells [AV.vs l len tk] 25)] [] []) (z0d 0 (z0i Tryz.X70 (cd Tryz.X70.P 70 [1,1,1]) (z0f Tryz.X70 70 Q)))) False)):=by kernel_rfl
theorem w0d (l:List AV) (len i:Nat) (tk:Tok) (Q:CR→Prop):wpC Tryz.X70 (cd PP 70 [1,1,0,1,0,0]) ([X,.ptr 0 0,X,I i]++List.replicate 63 X) ⟨[some (.cells [.vs l len tk] 25)],[],[]⟩ (z0r Tryz.X70 (cd PP 70 [1,1,0,1,0,0]) (z0d 0 (z0i Tryz.X70 (cd PP 70 [1,1,1]) (z0f Tryz.X70 70 Q)))) =
 (cIf (decide ((↑i:Int) < (↑len:Int))) (cIf (decide (i < len)) (cIf (decide (len * 8 = l.length)) (cIf (decide (8 ≤ (List.drop (i * 8) l).length)) (cIf (like zR (el (List.drop (i * 8) l) 0 8)) ((cS (el (List.drop (i * 8) l) 0 8) 0).length ≤ 9223372036854775807∧cIf (!z1s (cS (el (List.drop (i * 8) l) 0 8) 0)) (Q (CR.ret (I 4))) (cIf ([some (HB.cells [AV.vs l len tk] 25),some (HB.cells (elR (el (List.drop (i * 8) l) 0 8)) 73)].all (okBlk 2)) (z0l Tryz.X70 (cd PP 70 [1,1,0,1,0,0,1,0,0,1,1,1,0,1,0,0]) ([X,AV.ptr 0 0,X,I i,AV.ptr 1 0,X,I 0]++List.replicate 60 X) (St.mk [some (HB.cells [AV.vs l len tk] 25),some (HB.cells (elR (el (List.drop (i * 8) l) 0 8)) 73)] [] []) (z0d 2 (z0i Tryz.X70 (cd PP 70 [1,1,0,1,0,0,1,0,0,1,1,1,1]) (z0d 1 (z0i Tryz.X70 (cd PP 70 [1,1,0,1,0,0,1,1]) (z0r Tryz.X70 (cd PP 70 [1,1,0,1,0,0]) (z0d 0 (z0i Tryz.X70 (cd PP 70 [1,1,1]) (z0f Tryz.X70 70 Q))))))))) False)) False) False) False) False) (Q (CR.ret (I 0)))):=by kernel_rfl
theorem w0e (l:List AV) (len i j:Nat) (tk:Tok) (x:Rul) (Q:CR→Prop):wpC Tryz.X70 (cd PP 70 [1,1,0,1,0,0,1,0,0,1,1,1,0,1,0,0]) ([X,.ptr 0 0,X,I i,.ptr 1 0,X,I j]++List.replicate 60 X) ⟨[some (.cells [.vs l len tk] 25),some (.cells (z1d x) 73)],[],[]⟩ (z0r Tryz.X70 (cd PP 70 [1,1,0,1,0,0,1,0,0,1,1,1,0,1,0,0]) (z0d 2 (z0i Tryz.X70 (cd PP 70 [1,1,0,1,0,0,1,0,0,1,1,1,1]) (z0d 1 (z0i Tryz.X70 (cd PP 70 [1,1,0,1,0,0,1,1]) (z0r Tryz.X70 (cd PP 70 [1,1,0,1,0,0]) (z0d 0 (z0i Tryz.X70 (cd PP 70 [1,1,1]) (z0f Tryz.X70 70 Q))))))))) =
 (cIf (decide ((↑j:Int) < (↑i:Int))) (cIf (decide (j < len)) (cIf (decide (len * 8 = l.length)) (cIf (decide (0 < (List.drop (j * 8) l).length)) (cIf (z1g (AV.ofVal (Value.string (ByteArray.mk #[]))) ((List.drop (j * 8) l).getD 0 X)) (cIf (cS (List.drop (j * 8) l) 0 == x.name) (Q (CR.ret (I 6))) (cIf ([some (HB.cells [AV.vs l len tk] 25),some (HB.cells (z1d x) 73)].all (okBlk 2)) (z0l Tryz.X70 (cd PP 70 [1,1,0,1,0,0,1,0,0,1,1,1,0,1,0,0]) ([X,AV.ptr 0 0,X,I i,AV.ptr 1 0,X,I (IntKind.i64.wrap ((↑j:Int) + (1:Int)))]++List.replicate 60 X) (St.mk [some (HB.cells [AV.vs l len tk] 25),some (HB.cells (z1d x) 73)] [] []) (z0d 2 (z0i Tryz.X70 (cd PP 70 [1,1,0,1,0,0,1,0,0,1,1,1,1]) (z0d 1 (z0i Tryz.X70 (cd PP 70 [1,1,0,1,0,0,1,1]) (z0r Tryz.X70 (cd PP 70 [1,1,0,1,0,0]) (z0d 0 (z0i Tryz.X70 (cd PP 70 [1,1,1]) (z0f Tryz.X70 70 Q))))))))) False)) False) False) False) False) (cIf ([some (HB.cells [AV.vs l len tk] 25),some (HB.cells (z1d x) 73)].all (okBlk 2)) (z0k Tryz.X70 (cd PP 70 [1,1,0,1,0,0,1,0,0,1,1,1,1]) ([X,AV.ptr 0 0,X,I i,AV.ptr 1 0]++List.replicate 62 X) (St.mk [some (HB.cells [AV.vs l len tk] 25),some (HB.cells (z1d x) 73)] [] []) (z0d 1 (z0i Tryz.X70 (cd PP 70 [1,1,0,1,0,0,1,1]) (z0r Tryz.X70 (cd PP 70 [1,1,0,1,0,0]) (z0d 0 (z0i Tryz.X70 (cd PP 70 [1,1,1]) (z0f Tryz.X70 70 Q))))))) False)):=by kernel_rfl
theorem w59 (l:List AV) (len i:Nat) (tk:Tok) (x:Rul) (Q:CR→Prop):wpC Tryz.X70 (cd PP 70 [1,1,0,1,0,0,1,0,0,1,1,1,1]) ([X,.ptr 0 0,X,I i,.ptr 1 0]++List.replicate 62 X) ⟨[some (.cells [.vs l len tk] 25),some (.cells (z1d x) 73)],[],[]⟩ (z0d 1 (z0i Tryz.X70 (cd PP 70 [1,1,0,1,0,0,1,1]) (z0r Tryz.X70 (cd PP 70 [1,1,0,1,0,0]) (z0d 0 (z0i Tryz.X70 (cd PP 70 [1,1,1]) (z0f Tryz.X70 70 Q)))))) =
 (True∧True∧cIf (!(decide ((1:Int) ≤ x.rank) && decide (x.rank ≤ (99:Int)))) (Q (CR.ret (I 1))) (cIf (!(decide ((1:Int) ≤ x.weight) && decide (x.weight ≤ (1000:Int)))) (Q (CR.ret (I 1))) ((∃ (t:Tst),(y0e x.t) = z0m t∧wfT t)∧cIf (!z0g z0m (fun (t:Tst)=>decide ((szR t).fst ≤ (24:Int))) false (y0e x.t)) (Q (CR.ret (I 2))) ((∃ (t:Tst),(y0e x.t) = z0m t∧wfT t)∧cIf (!z0g z0m shT false (y0e x.t)) (Q (CR.ret (I 1))) (cIf ([some (HB.cells [AV.vs l len tk] 25)].all (okBlk 1)) (z0l Tryz.X70 (cd PP 70 [1,1,0,1,0,0]) ([X,AV.ptr 0 0,X,I (IntKind.i64.wrap ((↑i:Int) + (1:Int)))]++List.replicate 63 X) (St.mk [some (HB.cells [AV.vs l len tk] 25)] [] []) (z0d 0 (z0i Tryz.X70 (cd PP 70 [1,1,1]) (z0f Tryz.X70 70 Q)))) False))))):=by kernel_rfl
end Go.Proofs
set_option maxRecDepth 100000
set_option linter.unusedVariables false
namespace Go.Proofs
open Go Go.Ev
theorem c70:Cts Tryz.B [(103,R103),(109,R109),(113,R113),(114,R114)]:=((((Cts.nil _).cons w4l).cons x3j).cons w4m).cons w4n
theorem x6z {rs:List Rul} {j:Nat} {x y:Rul} (h:rs[j]? = some y):((rs.take (j + 1)).any fun z=>z.name == x.name) = ((rs.take j).any (fun z=>z.name == x.name) || (y.name == x.name)):=by
 rw [List.take_add_one,h,List.any_append]; simp
section
variable {rs:List Rul} (tk:Tok) (hw:z1h rs) {Q:CR→Prop}
theorem y8u (n:Nat) (x:Rul):[some (HB.cells [AV.vs (z0c rs) rs.length tk] 25),some (HB.cells (z1d x) 73)].all (okBlk n) = true:=by
 simp [okBlk,noHB,noHL,noH,z0t,z7c]
theorem y6x (n:Nat):[some (HB.cells [AV.vs (z0c rs) rs.length tk] 25)].all (okBlk n) = true:=by
 simp [okBlk,noHB,noHL,noH,z0t]
include hw
set_option maxHeartbeats 2000000 in
theorem w4t {i:Nat} {x:Rul} (hx:rs[i]? = some x) (hnt:((rs.take i).any fun y=>y.name == x.name) = false) (hwd:z1s x.name = true) (hQ:Q (rI (z5j (rs.take i) (rs.drop i))))
  (next:Q (rI (z5j (rs.take (i + 1)) (rs.drop (i + 1))))→z0l Tryz.X70 (cd PP 70 [1,1,0,1,0,0]) ([X,.ptr 0 0,X,I (i + 1:Nat)]++List.replicate 63 X) ⟨[some (.cells [.vs (z0c rs) rs.length tk] 25)],[],[]⟩ (z0d 0 (z0i Tryz.X70 (cd PP 70 [1,1,1]) (z0f Tryz.X70 70 Q)))) :
  z0k Tryz.X70 (cd PP 70 [1,1,0,1,0,0,1,0,0,1,1,1,1]) ([X,.ptr 0 0,X,I i,.ptr 1 0]++List.replicate 62 X) ⟨[some (.cells [.vs (z0c rs) rs.length tk] 25),some (.cells (z1d x) 73)],[],[]⟩ (z0d 1 (z0i Tryz.X70 (cd PP 70 [1,1,0,1,0,0,1,1]) (z0r Tryz.X70 (cd PP 70 [1,1,0,1,0,0]) (z0d 0 (z0i Tryz.X70 (cd PP 70 [1,1,1]) (z0f Tryz.X70 70 Q)))))):=by
 have hlt:i < rs.length:=(List.getElem?_eq_some_iff.1 hx).1
 have hd:rs.drop i = x :: rs.drop (i + 1):=by
  rw [List.drop_eq_getElem_cons hlt]
  rw [List.getElem?_eq_getElem hlt] at hx
  rw [Option.some.inj hx]
 have hlen:=hw.1
 have hwx:=hw.2 x (List.mem_of_getElem? hx)
 have ht:rs.take (i + 1) = rs.take i++[x]:=by rw [List.take_add_one,hx]; rfl
 rw [hd] at hQ
 simp only [z5j,hwd,hnt] at hQ
 refine z4e Tryz.bok c70 ((w59 _ _ _ tk x Q).mpr ⟨trivial,trivial,?_⟩)
 rw [y92,z0j (fun _ _=>z1a _ _),z0j (fun _ _=>z1a _ _)]
 refine z0h (fun h1=>?_) (fun h1=>z0h (fun h2=>?_) (fun h2=>⟨⟨_,rfl,hwx.1⟩,z0h (fun h3=>?_) (fun h3=>⟨⟨_,rfl,hwx.1⟩,z0h (fun h4=>?_) (fun h4=>z0b (y6x tk 1) ?_)⟩)⟩))
 ·have:z2h x = false:=by simp [z2h] at *; omega
  simpa [this] using hQ
 ·have:z2h x = false:=by simp [z2h] at *; omega
  simpa [this] using hQ
 ·have hr:z2h x = true:=by simp [z2h] at *; omega
  have hs:z4h x.t = false:=by simpa [z4h] using h3
  simpa [hr,hs] using hQ
 ·have hr:z2h x = true:=by simp [z2h] at *; omega
  have hs:z4h x.t = true:=by simpa [z4h] using h3
  have hh:shT x.t = false:=by simpa using h4
  simpa [hr,hs,hh] using hQ
 ·have hr:z2h x = true:=by simp [z2h] at *; omega
  have hs:z4h x.t = true:=by simpa [z4h] using h3
  have hh:shT x.t = true:=by simpa using h4
  rw [z09 (by omega) (by omega)]
  refine next ?_
  rw [ht]
  simpa [hr,hs,hh] using hQ
set_option maxHeartbeats 2000000 in
theorem w4s {i:Nat} {x:Rul} (hx:rs[i]? = some x) (hwd:z1s x.name = true) (hQ:Q (rI (z5j (rs.take i) (rs.drop i))))
  (next:Q (rI (z5j (rs.take (i + 1)) (rs.drop (i + 1))))→z0l Tryz.X70 (cd PP 70 [1,1,0,1,0,0]) ([X,.ptr 0 0,X,I (i + 1:Nat)]++List.replicate 63 X) ⟨[some (.cells [.vs (z0c rs) rs.length tk] 25)],[],[]⟩ (z0d 0 (z0i Tryz.X70 (cd PP 70 [1,1,1]) (z0f Tryz.X70 70 Q)))) :
  ∀ (d j:Nat),i - j = d→j ≤ i→((rs.take j).any fun y=>y.name == x.name) = false →
  z0l Tryz.X70 (cd PP 70 [1,1,0,1,0,0,1,0,0,1,1,1,0,1,0,0]) ([X,.ptr 0 0,X,I i,.ptr 1 0,X,I j]++List.replicate 60 X) ⟨[some (.cells [.vs (z0c rs) rs.length tk] 25),some (.cells (z1d x) 73)],[],[]⟩ (z0d 2 (z0i Tryz.X70 (cd PP 70 [1,1,0,1,0,0,1,0,0,1,1,1,1]) (z0d 1 (z0i Tryz.X70 (cd PP 70 [1,1,0,1,0,0,1,1]) (z0r Tryz.X70 (cd PP 70 [1,1,0,1,0,0]) (z0d 0 (z0i Tryz.X70 (cd PP 70 [1,1,1]) (z0f Tryz.X70 70 Q)))))))):=by
 have hlt:i < rs.length:=(List.getElem?_eq_some_iff.1 hx).1
 have hlen:=hw.1
 have hd:rs.drop i = x :: rs.drop (i + 1):=by
  rw [List.drop_eq_getElem_cons hlt]
  rw [List.getElem?_eq_getElem hlt] at hx
  rw [Option.some.inj hx]
 intro d
 induction d with
 | zero =>
  intro j hd hj hn
  have hj':j = i:=by omega
  subst hj'
  refine z1b Tryz.bok c70 ((w0e _ _ _ _ tk x Q).mpr (z0p (by simp) (z0b (y8u tk 2 x) ?_)))
  exact w4t tk hw hx hn hwd hQ next
 | succ d ih =>
  intro j hd' hj hn
  have hlj:j < rs.length:=by omega
  obtain ⟨y,hy,_⟩:=z1p hlj
  have hc:cS (List.drop (j * 8) (z0c rs)) 0 = y.name∧z1g (.str []) ((List.drop (j * 8) (z0c rs)).getD 0 X) = true:=by
   have h1:=z4u hy
   have h2:(List.drop (j * 8) (z0c rs)).getD 0 .bad = (z1d y).getD 0 .bad:=by
    rw [← h1]
    simp [el,List.getD_eq_getElem?_getD,List.getElem?_take]
   constructor
   ·unfold cS; rw [h2]; rfl
   ·rw [h2]; rfl
  refine z1b Tryz.bok c70 ((w0e _ _ _ _ tk x Q).mpr (z0b (by simp; omega) (z0b (by simpa using hlj) (z0b (by simp [z02]) (z0b (by have:=z03 (z02 rs) hlj; simp only [decide_eq_true_eq]; omega) ?_)))))
  refine z0b hc.2 ?_
  rw [hc.1]
  refine z0h (fun h=>?_) (fun h=>z0b (y8u tk 2 x) ?_)
  ·rw [hd] at hQ
   have:((rs.take i).any fun y=>y.name == x.name) = true:=by
    rw [List.any_eq_true]
    refine ⟨y,?_,h⟩
    have:(rs.take i)[j]? = some y:=by rw [List.getElem?_take_of_lt (by omega)]; exact hy
    exact List.mem_of_getElem? this
   simp only [z5j,hwd,this] at hQ
   simpa using hQ
  ·rw [z09 (by omega) (by omega)]
   refine ih (j + 1) (by omega) (by omega) ?_
   rw [x6z hy,hn,h]; rfl
set_option maxHeartbeats 2000000 in
theorem w4r:∀ (d i:Nat),rs.length - i = d→i ≤ rs.length→Q (rI (z5j (rs.take i) (rs.drop i))) →
  z0l Tryz.X70 (cd PP 70 [1,1,0,1,0,0]) ([X,.ptr 0 0,X,I i]++List.replicate 63 X) ⟨[some (.cells [.vs (z0c rs) rs.length tk] 25)],[],[]⟩ (z0d 0 (z0i Tryz.X70 (cd PP 70 [1,1,1]) (z0f Tryz.X70 70 Q))):=by
 have hlen:=hw.1
 intro d
 induction d with
 | zero =>
  intro i hd hi hQ
  have hi':i = rs.length:=by omega
  subst hi'
  refine z1b Tryz.bok c70 ((w0d _ _ _ tk Q).mpr (z0p (by simp) ?_))
  simpa [z5j] using hQ
 | succ d ih =>
  intro i hd hi hQ
  have hlt:i < rs.length:=by omega
  obtain ⟨x,hx,hdr⟩:=z1p hlt
  have hwx:=hw.2 x (List.mem_of_getElem? hx)
  refine z1b Tryz.bok c70 ((w0d _ _ _ tk Q).mpr (z0b (by simp; omega) (z0b (by simpa using hlt) (z0b (by simp [z02]) (z0b (by have:=z03 (z02 rs) hlt; simpa using this) ?_)))))
  rw [z4u hx,y2s]
  refine z0b (z4s x) ⟨hwx.2.1,z0h (fun h=>?_) (fun h=>z0b (y8u tk 2 x) ?_)⟩
  ·have h:z1s x.name = false:=by
    have h':(!z1s x.name) = true:=h
    simpa using h'
   rw [hdr] at hQ
   simpa only [z5j,h,if_true] using hQ
  ·have h:z1s x.name = true:=by
    have h':(!z1s x.name) = false:=h
    simpa using h'
   exact w4s tk hw hx h hQ (fun hq=>ih (i + 1) (by omega) (by omega) hq) _ 0 rfl (Nat.zero_le _) rfl
end
set_option maxHeartbeats 2000000 in
theorem w2l:Ct Tryz.B.c0 70 R70:=Ct.of_wp (lm:=w1f) (ct:=[15]) (sm:=[(4,1),(11,2),(15,2)]) Tryz.bok c70 ⟨_,_,Tryz.func70,rfl⟩ fun args D r hR hD=>by
 unfold R70 at hR
 split at hR <;> cases hR
 rename_i tk
 obtain ⟨rs,rfl,rfl,hw⟩:=hD
 refine ⟨by simp [noHL,noH,z0t],?_⟩
 rw [show z0e 0 [AV.agg [.vs (z0c rs) rs.length tk]] = [AV.agg [.vs (z0c rs) rs.length (tk.scrub 0)]] by simp [z0e,scrub,z1f],z0j z0u]
 refine (v70 _ _ _ _).mpr (z0h (fun h=>?_) (fun h=>z0b (y6x _ 1) ?_))
 ·have h:rs.length > 24:=by simp at h; omega
  simp [chk,h]
 ·have h:¬ rs.length > 24:=by simp at h; omega
  refine w4r _ hw _ 0 rfl (Nat.zero_le _) ?_
  simp [chk,h]
end Go.Proofs
