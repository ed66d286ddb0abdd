/- Contracts of functions of the program and of the reference. -/
import Derived.Test.YtljjkomdibkjpaaGreatDoorK3
import Derived.Test.YtljjkomdibkjpaaGreatDoorE5
set_option linter.unusedVariables false
set_option linter.unusedSimpArgs false
set_option maxRecDepth 100000
set_option linter.unusedVariables false
namespace Go.Proofs
open Go Go.Ev
def z7d (a n:Int):Bool:=if a = 1 then decide (1 ≤ n) && decide (n ≤ 5) else if a = 2 then decide (0 ≤ n) && decide (n ≤ 2) else decide (z3i a = 2) && decide (n = 1)
def R120:Spc:=fun args=>match args with
 | [.int .u8 a,.int .i64 n]=>some (True,rB (z7d a n))
 | _=>none
noncomputable def R76:Spc:=fun args=>match args with
 | [.agg l]=>some (∃ t,l = z0m t∧wfT t,rB (z0g z0m shT false l))
 | _=>none
def z94:List Tst→Int→Int
 | [],_=>-1
 | t :: l,i=>if shT t = true then z94 l (i + 1) else i
noncomputable def x0l (m:Nat):Spc:=fun args=>match args with
 | [.agg l]=>some ((∃ t,l = z0m t∧wfT t)∧z0o l + 1 < m,rB (!z0g z0m shT false l))
 | _=>none
noncomputable def x25 (m:Nat):Spc:=fun args=>match args with
 | [.vs l len _,.fn (.func 122) [] []]=>some (∃ ts,l = z0q ts∧len = ts.length∧z6p ts∧ts.length ≤ 9223372036854775807∧z0o l + 1 < m,rI (z0g z0q (fun ts=>z94 ts 0) 0 l))
 | _=>none
noncomputable def x0m (m:Nat):Spc:=fun args=>match args with
 | [.vs l len _,.fn (.func 122) [] []]=>some (∃ ts,l = z0q ts∧len = ts.length∧z6p ts∧ts.length ≤ 9223372036854775807∧z0o l + 1 < m,rB (z0g z0q (fun ts=>decide (z94 ts 0 ≥ 0)) false l))
 | _=>none
noncomputable def Tryz.X120:WCx:=Tryz.B.wcx [(112,R112)]
noncomputable def Tryz.X122 (m:Nat):WCx:=Tryz.B.wcx [(76,R76.below m)]
noncomputable def Tryz.X156 (m:Nat):WCx:=Tryz.B.wcx [(122,x0l m)] [(2,[0,1,7,8]),(7,[])]
noncomputable def Tryz.X121 (m:Nat):WCx:=Tryz.B.wcx [(156,x25 m)]
noncomputable def Tryz.X76 (m:Nat):WCx:=Tryz.B.wcx [(112,R112),(120,R120),(121,x0m m)] [(4,[1,3,4,5]),(22,[1,6])] [] [4,22]
theorem w63 (a n:Int) (Q:CR→Prop):wpF Tryz.X120 120 [U a,I n] Q =
 (cIf (a == (1:Int)) (cIf (decide (n ≥ (1:Int))) (Q (CR.ret (Bo (decide (n ≤ (5:Int)))))) (Q (CR.ret (Bo false)))) (cIf (a == (2:Int)) (cIf (decide (n ≥ (0:Int))) (Q (CR.ret (Bo (decide (n ≤ (2:Int)))))) (Q (CR.ret (Bo false)))) (True∧cIf (z3i a == (2:Int)) (Q (CR.ret (Bo (n == (1:Int))))) (Q (CR.ret (Bo false)))))):=by kernel_rfl
theorem w61 (m:Nat) (op attr side n:Int) (l:List AV) (len:Nat) (Q:CR→Prop):wpF (Tryz.X122 m) 122 [.agg [U op,U attr,U side,I n,.vs l len .none]] Q =
 (((∃ (t:Tst),[U op,U attr,U side,I n,AV.vs l len Tok.none] = z0m t∧wfT t)∧z0o ([]++[AV.agg [U op,U attr,U side,I n,AV.vs l len Tok.none]]++[]) < m)∧Q (CR.ret (Bo !z0g z0m shT false [U op,U attr,U side,I n,AV.vs l len Tok.none]))):=by kernel_rfl
theorem w6v (m:Nat) (l:List AV) (len:Nat) (tk:Tok) (Q:CR→Prop):wpF (Tryz.X156 m) 156 [.vs l len tk,.fn (.func 122) [] []] Q =
 (z0l (Tryz.X156 m) (cd (Tryz.X156 m).P 156 [1,0,1,0,0]) ([AV.vs l len tk,AV.fn (Fn.func 122) [] [],X,X,X,X,X,I len,I 0]++List.replicate 10 X) (St.mk [] [] []) (z0d 0 (z0i (Tryz.X156 m) (cd (Tryz.X156 m).P 156 [1,1]) (z0f (Tryz.X156 m) 156 Q)))):=by kernel_rfl
theorem x7m (m:Nat) (l:List AV) (len i:Nat) (tk:Tok) (Q:CR→Prop):wpC (Tryz.X156 m) (cd PP 156 [1,0,1,0,0]) ([.vs l len tk,.fn (.func 122) [] [],X,X,X,X,X,I len,I i]++List.replicate 10 X) ⟨[],[],[]⟩ (z0r (Tryz.X156 m) (cd PP 156 [1,0,1,0,0]) (z0d 0 (z0i (Tryz.X156 m) (cd PP 156 [1,1]) (z0f (Tryz.X156 m) 156 Q)))) =
 (cIf (decide ((↑i:Int) < (↑len:Int))) (cIf (decide (i < len)) (cIf (decide (len * 5 = l.length)) (cIf (decide (5 ≤ (List.drop (i * 5) l).length)) (cIf (like zT (el (List.drop (i * 5) l) 0 5)) (((∃ (t:Tst),(elT (el (List.drop (i * 5) l) 0 5)) = z0m t∧wfT t)∧z0o (elT (el (List.drop (i * 5) l) 0 5)) + 1 < m)∧cIf (!z0g z0m shT false (elT (el (List.drop (i * 5) l) 0 5))) (Q (CR.ret (I i))) (z0l (Tryz.X156 m) (cd PP 156 [1,0,1,0,0]) ([AV.vs l len tk,AV.fn (Fn.func 122) [] [],X,X,X,X,X,I len,I (IntKind.i64.wrap ((↑i:Int) + (1:Int)))]++List.replicate 10 X) (St.mk [] [] []) (z0d 0 (z0i (Tryz.X156 m) (cd PP 156 [1,1]) (z0f (Tryz.X156 m) 156 Q))))) False) False) False) False) (Q (CR.ret (I (-1))))):=by kernel_rfl
theorem w62 (m:Nat) (l:List AV) (len:Nat) (tk:Tok) (Q:CR→Prop):wpF (Tryz.X121 m) 121 [.vs l len tk,.fn (.func 122) [] []] Q =
 ((∃ (ts:List Tst),l = z0q ts∧len = ts.length∧z6p ts∧ts.length ≤ 9223372036854775807∧z0o l + 1 < m)∧Q (CR.ret (Bo (decide (z0g z0q (fun (ts:List Tst)=>z94 ts (0:Int)) (0:Int) l ≥ (0:Int)))))):=by kernel_rfl
theorem v76 (m:Nat) (op attr side n:Int) (l:List AV) (len:Nat) (Q:CR→Prop):wpF (Tryz.X76 m) 76 [.agg [U op,U attr,U side,I n,.vs l len .none]] Q =
 (True∧cIf (side == (1:Int)) (z0k (Tryz.X76 m) (cd (Tryz.X76 m).P 76 [1,1,1,1]) ([X,AV.ptr 0 0,X,I (z3i attr),Bo ((↑len:Int) == (0:Int)),Bo true]++List.replicate 163 X) (St.mk [some (HB.cells [U op,U attr,U side,I n,AV.vs l len Tok.none] 71)] [] []) (z0f (Tryz.X76 m) 76 Q)) (z0k (Tryz.X76 m) (cd (Tryz.X76 m).P 76 [1,1,1,1]) ([X,AV.ptr 0 0,X,I (z3i attr),Bo ((↑len:Int) == (0:Int)),Bo (side == (2:Int))]++List.replicate 163 X) (St.mk [some (HB.cells [U op,U attr,U side,I n,AV.vs l len Tok.none] 71)] [] []) (z0f (Tryz.X76 m) 76 Q))):=by kernel_rfl
theorem w58 (m:Nat) (op attr side n k:Int) (l:List AV) (len:Nat) (lf sd:Bool) (Q:CR→Prop):wpC (Tryz.X76 m) (cd PP 76 [1,1,1,1]) ([X,.ptr 0 0,X,I k,Bo lf,Bo sd]++List.replicate 163 X) ⟨[some (.cells [U op,U attr,U side,I n,.vs l len .none] 71)],[],[]⟩ (z0f (Tryz.X76 m) 76 Q) =
 (cIf (op == (1:Int)) (cIf lf (cIf (attr == (0:Int)) (cIf (side == (0:Int)) (z0k (Tryz.X76 m) (cd PP 76 [1,1,1,1,1,1]) ([X,AV.ptr 0 0,X,X,X,X,Bo (n == (0:Int))]++List.replicate 162 X) (St.mk [some (HB.cells [U op,U attr,U side,I n,AV.vs l len Tok.none] 71)] [] []) (z0f (Tryz.X76 m) 76 Q)) (z0k (Tryz.X76 m) (cd PP 76 [1,1,1,1,1,1]) ([X,AV.ptr 0 0,X,X,X,X,Bo false]++List.replicate 162 X) (St.mk [some (HB.cells [U op,U attr,U side,I n,AV.vs l len Tok.none] 71)] [] []) (z0f (Tryz.X76 m) 76 Q))) (z0k (Tryz.X76 m) (cd PP 76 [1,1,1,1,1,1]) ([X,AV.ptr 0 0,X,X,X,X,Bo false]++List.replicate 162 X) (St.mk [some (HB.cells [U op,U attr,U side,I n,AV.vs l len Tok.none] 71)] [] []) (z0f (Tryz.X76 m) 76 Q))) (z0k (Tryz.X76 m) (cd PP 76 [1,1,1,1,1,1]) ([X,AV.ptr 0 0,X,X,X,X,Bo false]++List.replicate 162 X) (St.mk [some (HB.cells [U op,U attr,U side,I n,AV.vs l len Tok.none] 71)] [] []) (z0f (Tryz.X76 m) 76 Q))) (cIf (op == (2:Int)) (cIf (op == (2:Int)) (cIf lf (cIf (k == (1:Int)) (cIf (side == (0:Int)) (z0k (Tryz.X76 m) (cd PP 76 [1,1,1,1,1,1]) ([X,AV.ptr 0 0,X,X,X,X,Bo (n == (0:Int))]++List.replicate 162 X) (St.mk [some (HB.cells [U op,U attr,U side,I n,AV.vs l len Tok.none] 71)] [] []) (z0f (Tryz.X76 m) 76 Q)) (z0k (Tryz.X76 m) (cd PP 76 [1,1,1,1,1,1]) ([X,AV.ptr 0 0,X,X,X,X,Bo false]++List.replicate 162 X) (St.mk [some (HB.cells [U op,U attr,U side,I n,AV.vs l len Tok.none] 71)] [] []) (z0f (Tryz.X76 m) 76 Q))) (cIf (k == (3:Int)) (cIf (side == (0:Int)) (z0k (Tryz.X76 m) (cd PP 76 [1,1,1,1,1,1]) ([X,AV.ptr 0 0,X,X,X,X,Bo (n == (0:Int))]++List.replicate 162 X) (St.mk [some (HB.cells [U op,U attr,U side,I n,AV.vs l len Tok.none] 71)] [] []) (z0f (Tryz.X76 m) 76 Q)) (z0k (Tryz.X76 m) (cd PP 76 [1,1,1,1,1,1]) ([X,AV.ptr 0 0,X,X,X,X,Bo false]++List.replicate 162 X) (St.mk [some (HB.cells [U op,U attr,U side,I n,AV.vs l len Tok.none] 71)] [] []) (z0f (Tryz.X76 m) 76 Q))) (z0k (Tryz.X76 m) (cd PP 76 [1,1,1,1,1,1]) ([X,AV.ptr 0 0,X,X,X,X,Bo false]++List.replicate 162 X) (St.mk [some (HB.cells [U op,U attr,U side,I n,AV.vs l len Tok.none] 71)] [] []) (z0f (Tryz.X76 m) 76 Q)))) (z0k (Tryz.X76 m) (cd PP 76 [1,1,1,1,1,1]) ([X,AV.ptr 0 0,X,X,X,X,Bo false]++List.replicate 162 X) (St.mk [some (HB.cells [U op,U attr,U side,I n,AV.vs l len Tok.none] 71)] [] []) (z0f (Tryz.X76 m) 76 Q))) (cIf (op == (4:Int)) (cIf lf (cIf (k != (0:Int)) (cIf (side == (0:Int)) (z0k (Tryz.X76 m) (cd PP 76 [1,1,1,1,1,1]) ([X,AV.ptr 0 0,X,X,X,X,Bo (n == (0:Int))]++List.replicate 162 X) (St.mk [some (HB.cells [U op,U attr,U side,I n,AV.vs l len Tok.none] 71)] [] []) (z0f (Tryz.X76 m) 76 Q)) (z0k (Tryz.X76 m) (cd PP 76 [1,1,1,1,1,1]) ([X,AV.ptr 0 0,X,X,X,X,Bo false]++List.replicate 162 X) (St.mk [some (HB.cells [U op,U attr,U side,I n,AV.vs l len Tok.none] 71)] [] []) (z0f (Tryz.X76 m) 76 Q))) (z0k (Tryz.X76 m) (cd PP 76 [1,1,1,1,1,1]) ([X,AV.ptr 0 0,X,X,X,X,Bo false]++List.replicate 162 X) (St.mk [some (HB.cells [U op,U attr,U side,I n,AV.vs l len Tok.none] 71)] [] []) (z0f (Tryz.X76 m) 76 Q))) (z0k (Tryz.X76 m) (cd PP 76 [1,1,1,1,1,1]) ([X,AV.ptr 0 0,X,X,X,X,Bo false]++List.replicate 162 X) (St.mk [some (HB.cells [U op,U attr,U side,I n,AV.vs l len Tok.none] 71)] [] []) (z0f (Tryz.X76 m) 76 Q))) (cIf (op == (5:Int)) (cIf lf (cIf (k == (1:Int)) (cIf sd (True∧z0k (Tryz.X76 m) (cd PP 76 [1,1,1,1,1,1]) ([X,AV.ptr 0 0,X,X,X,X,Bo (z7d attr n)]++List.replicate 162 X) (St.mk [some (HB.cells [U op,U attr,U side,I n,AV.vs l len Tok.none] 71)] [] []) (z0f (Tryz.X76 m) 76 Q)) (z0k (Tryz.X76 m) (cd PP 76 [1,1,1,1,1,1]) ([X,AV.ptr 0 0,X,X,X,X,Bo false]++List.replicate 162 X) (St.mk [some (HB.cells [U op,U attr,U side,I n,AV.vs l len Tok.none] 71)] [] []) (z0f (Tryz.X76 m) 76 Q))) (cIf (k == (2:Int)) (cIf sd (True∧z0k (Tryz.X76 m) (cd PP 76 [1,1,1,1,1,1]) ([X,AV.ptr 0 0,X,X,X,X,Bo (z7d attr n)]++List.replicate 162 X) (St.mk [some (HB.cells [U op,U attr,U side,I n,AV.vs l len Tok.none] 71)] [] []) (z0f (Tryz.X76 m) 76 Q)) (z0k (Tryz.X76 m) (cd PP 76 [1,1,1,1,1,1]) ([X,AV.ptr 0 0,X,X,X,X,Bo false]++List.replicate 162 X) (St.mk [some (HB.cells [U op,U attr,U side,I n,AV.vs l len Tok.none] 71)] [] []) (z0f (Tryz.X76 m) 76 Q))) (z0k (Tryz.X76 m) (cd PP 76 [1,1,1,1,1,1]) ([X,AV.ptr 0 0,X,X,X,X,Bo false]++List.replicate 162 X) (St.mk [some (HB.cells [U op,U attr,U side,I n,AV.vs l len Tok.none] 71)] [] []) (z0f (Tryz.X76 m) 76 Q)))) (z0k (Tryz.X76 m) (cd PP 76 [1,1,1,1,1,1]) ([X,AV.ptr 0 0,X,X,X,X,Bo false]++List.replicate 162 X) (St.mk [some (HB.cells [U op,U attr,U side,I n,AV.vs l len Tok.none] 71)] [] []) (z0f (Tryz.X76 m) 76 Q))) (cIf (op == (6:Int)) (cIf lf (cIf (k == (1:Int)) (cIf sd (True∧z0k (Tryz.X76 m) (cd PP 76 [1,1,1,1,1,1]) ([X,AV.ptr 0 0,X,X,X,X,Bo (z7d attr n)]++List.replicate 162 X) (St.mk [some (HB.cells [U op,U attr,U side,I n,AV.vs l len Tok.none] 71)] [] []) (z0f (Tryz.X76 m) 76 Q)) (z0k (Tryz.X76 m) (cd PP 76 [1,1,1,1,1,1]) ([X,AV.ptr 0 0,X,X,X,X,Bo false]++List.replicate 162 X) (St.mk [some (HB.cells [U op,U attr,U side,I n,AV.vs l len Tok.none] 71)] [] []) (z0f (Tryz.X76 m) 76 Q))) (z0k (Tryz.X76 m) (cd PP 76 [1,1,1,1,1,1]) ([X,AV.ptr 0 0,X,X,X,X,Bo false]++List.replicate 162 X) (St.mk [some (HB.cells [U op,U attr,U side,I n,AV.vs l len Tok.none] 71)] [] []) (z0f (Tryz.X76 m) 76 Q))) (z0k (Tryz.X76 m) (cd PP 76 [1,1,1,1,1,1]) ([X,AV.ptr 0 0,X,X,X,X,Bo false]++List.replicate 162 X) (St.mk [some (HB.cells [U op,U attr,U side,I n,AV.vs l len Tok.none] 71)] [] []) (z0f (Tryz.X76 m) 76 Q))) (cIf (op == (7:Int)) (cIf ((↑len:Int) == (1:Int)) (cIf (attr == (0:Int)) (cIf (side == (0:Int)) (z0k (Tryz.X76 m) (cd PP 76 [1,1,1,1,1,1]) ([X,AV.ptr 0 0,X,X,X,X,Bo (n == (0:Int))]++List.replicate 162 X) (St.mk [some (HB.cells [U op,U attr,U side,I n,AV.vs l len Tok.none] 71)] [] []) (z0f (Tryz.X76 m) 76 Q)) (z0k (Tryz.X76 m) (cd PP 76 [1,1,1,1,1,1]) ([X,AV.ptr 0 0,X,X,X,X,Bo false]++List.replicate 162 X) (St.mk [some (HB.cells [U op,U attr,U side,I n,AV.vs l len Tok.none] 71)] [] []) (z0f (Tryz.X76 m) 76 Q))) (z0k (Tryz.X76 m) (cd PP 76 [1,1,1,1,1,1]) ([X,AV.ptr 0 0,X,X,X,X,Bo false]++List.replicate 162 X) (St.mk [some (HB.cells [U op,U attr,U side,I n,AV.vs l len Tok.none] 71)] [] []) (z0f (Tryz.X76 m) 76 Q))) (z0k (Tryz.X76 m) (cd PP 76 [1,1,1,1,1,1]) ([X,AV.ptr 0 0,X,X,X,X,Bo false]++List.replicate 162 X) (St.mk [some (HB.cells [U op,U attr,U side,I n,AV.vs l len Tok.none] 71)] [] []) (z0f (Tryz.X76 m) 76 Q))) (cIf (op == (8:Int)) (cIf (op == (8:Int)) (cIf (decide ((↑len:Int) ≥ (2:Int))) (cIf (attr == (0:Int)) (cIf (side == (0:Int)) (z0k (Tryz.X76 m) (cd PP 76 [1,1,1,1,1,1]) ([X,AV.ptr 0 0,X,X,X,X,Bo (n == (0:Int))]++List.replicate 162 X) (St.mk [some (HB.cells [U op,U attr,U side,I n,AV.vs l len Tok.none] 71)] [] []) (z0f (Tryz.X76 m) 76 Q)) (z0k (Tryz.X76 m) (cd PP 76 [1,1,1,1,1,1]) ([X,AV.ptr 0 0,X,X,X,X,Bo false]++List.replicate 162 X) (St.mk [some (HB.cells [U op,U attr,U side,I n,AV.vs l len Tok.none] 71)] [] []) (z0f (Tryz.X76 m) 76 Q))) (z0k (Tryz.X76 m) (cd PP 76 [1,1,1,1,1,1]) ([X,AV.ptr 0 0,X,X,X,X,Bo false]++List.replicate 162 X) (St.mk [some (HB.cells [U op,U attr,U side,I n,AV.vs l len Tok.none] 71)] [] []) (z0f (Tryz.X76 m) 76 Q))) (z0k (Tryz.X76 m) (cd PP 76 [1,1,1,1,1,1]) ([X,AV.ptr 0 0,X,X,X,X,Bo false]++List.replicate 162 X) (St.mk [some (HB.cells [U op,U attr,U side,I n,AV.vs l len Tok.none] 71)] [] []) (z0f (Tryz.X76 m) 76 Q))) (z0k (Tryz.X76 m) (cd PP 76 [1,1,1,1,1,1]) ([X,AV.ptr 0 0,X,X,X,X,Bo false]++List.replicate 162 X) (St.mk [some (HB.cells [U op,U attr,U side,I n,AV.vs l len Tok.none] 71)] [] []) (z0f (Tryz.X76 m) 76 Q))) (cIf (op == (9:Int)) (cIf (decide ((↑len:Int) ≥ (2:Int))) (cIf (attr == (0:Int)) (cIf (side == (0:Int)) (z0k (Tryz.X76 m) (cd PP 76 [1,1,1,1,1,1]) ([X,AV.ptr 0 0,X,X,X,X,Bo (n == (0:Int))]++List.replicate 162 X) (St.mk [some (HB.cells [U op,U attr,U side,I n,AV.vs l len Tok.none] 71)] [] []) (z0f (Tryz.X76 m) 76 Q)) (z0k (Tryz.X76 m) (cd PP 76 [1,1,1,1,1,1]) ([X,AV.ptr 0 0,X,X,X,X,Bo false]++List.replicate 162 X) (St.mk [some (HB.cells [U op,U attr,U side,I n,AV.vs l len Tok.none] 71)] [] []) (z0f (Tryz.X76 m) 76 Q))) (z0k (Tryz.X76 m) (cd PP 76 [1,1,1,1,1,1]) ([X,AV.ptr 0 0,X,X,X,X,Bo false]++List.replicate 162 X) (St.mk [some (HB.cells [U op,U attr,U side,I n,AV.vs l len Tok.none] 71)] [] []) (z0f (Tryz.X76 m) 76 Q))) (z0k (Tryz.X76 m) (cd PP 76 [1,1,1,1,1,1]) ([X,AV.ptr 0 0,X,X,X,X,Bo false]++List.replicate 162 X) (St.mk [some (HB.cells [U op,U attr,U side,I n,AV.vs l len Tok.none] 71)] [] []) (z0f (Tryz.X76 m) 76 Q))) (z0k (Tryz.X76 m) (cd PP 76 [1,1,1,1,1,1]) ([X,AV.ptr 0 0,X,X,X,X,Bo false]++List.replicate 162 X) (St.mk [some (HB.cells [U op,U attr,U side,I n,AV.vs l len Tok.none] 71)] [] []) (z0f (Tryz.X76 m) 76 Q))))))))) (cIf (op == (3:Int)) (cIf lf (cIf (k == (1:Int)) (cIf (side == (0:Int)) (z0k (Tryz.X76 m) (cd PP 76 [1,1,1,1,1,1]) ([X,AV.ptr 0 0,X,X,X,X,Bo (n == (0:Int))]++List.replicate 162 X) (St.mk [some (HB.cells [U op,U attr,U side,I n,AV.vs l len Tok.none] 71)] [] []) (z0f (Tryz.X76 m) 76 Q)) (z0k (Tryz.X76 m) (cd PP 76 [1,1,1,1,1,1]) ([X,AV.ptr 0 0,X,X,X,X,Bo false]++List.replicate 162 X) (St.mk [some (HB.cells [U op,U attr,U side,I n,AV.vs l len Tok.none] 71)] [] []) (z0f (Tryz.X76 m) 76 Q))) (cIf (k == (3:Int)) (cIf (side == (0:Int)) (z0k (Tryz.X76 m) (cd PP 76 [1,1,1,1,1,1]) ([X,AV.ptr 0 0,X,X,X,X,Bo (n == (0:Int))]++List.replicate 162 X) (St.mk [some (HB.cells [U op,U attr,U side,I n,AV.vs l len Tok.none] 71)] [] []) (z0f (Tryz.X76 m) 76 Q)) (z0k (Tryz.X76 m) (cd PP 76 [1,1,1,1,1,1]) ([X,AV.ptr 0 0,X,X,X,X,Bo false]++List.replicate 162 X) (St.mk [some (HB.cells [U op,U attr,U side,I n,AV.vs l len Tok.none] 71)] [] []) (z0f (Tryz.X76 m) 76 Q))) (z0k (Tryz.X76 m) (cd PP 76 [1,1,1,1,1,1]) ([X,AV.ptr 0 0,X,X,X,X,Bo false]++List.replicate 162 X) (St.mk [some (HB.cells [U op,U attr,U side,I n,AV.vs l len Tok.none] 71)] [] []) (z0f (Tryz.X76 m) 76 Q)))) (z0k (Tryz.X76 m) (cd PP 76 [1,1,1,1,1,1]) ([X,AV.ptr 0 0,X,X,X,X,Bo false]++List.replicate 162 X) (St.mk [some (HB.cells [U op,U attr,U side,I n,AV.vs l len Tok.none] 71)] [] []) (z0f (Tryz.X76 m) 76 Q))) (cIf (op == (4:Int)) (cIf lf (cIf (k != (0:Int)) (cIf (side == (0:Int)) (z0k (Tryz.X76 m) (cd PP 76 [1,1,1,1,1,1]) ([X,AV.ptr 0 0,X,X,X,X,Bo (n == (0:Int))]++List.replicate 162 X) (St.mk [some (HB.cells [U op,U attr,U side,I n,AV.vs l len Tok.none] 71)] [] []) (z0f (Tryz.X76 m) 76 Q)) (z0k (Tryz.X76 m) (cd PP 76 [1,1,1,1,1,1]) ([X,AV.ptr 0 0,X,X,X,X,Bo false]++List.replicate 162 X) (St.mk [some (HB.cells [U op,U attr,U side,I n,AV.vs l len Tok.none] 71)] [] []) (z0f (Tryz.X76 m) 76 Q))) (z0k (Tryz.X76 m) (cd PP 76 [1,1,1,1,1,1]) ([X,AV.ptr 0 0,X,X,X,X,Bo false]++List.replicate 162 X) (St.mk [some (HB.cells [U op,U attr,U side,I n,AV.vs l len Tok.none] 71)] [] []) (z0f (Tryz.X76 m) 76 Q))) (z0k (Tryz.X76 m) (cd PP 76 [1,1,1,1,1,1]) ([X,AV.ptr 0 0,X,X,X,X,Bo false]++List.replicate 162 X) (St.mk [some (HB.cells [U op,U attr,U side,I n,AV.vs l len Tok.none] 71)] [] []) (z0f (Tryz.X76 m) 76 Q))) (cIf (op == (5:Int)) (cIf lf (cIf (k == (1:Int)) (cIf sd (True∧z0k (Tryz.X76 m) (cd PP 76 [1,1,1,1,1,1]) ([X,AV.ptr 0 0,X,X,X,X,Bo (z7d attr n)]++List.replicate 162 X) (St.mk [some (HB.cells [U op,U attr,U side,I n,AV.vs l len Tok.none] 71)] [] []) (z0f (Tryz.X76 m) 76 Q)) (z0k (Tryz.X76 m) (cd PP 76 [1,1,1,1,1,1]) ([X,AV.ptr 0 0,X,X,X,X,Bo false]++List.replicate 162 X) (St.mk [some (HB.cells [U op,U attr,U side,I n,AV.vs l len Tok.none] 71)] [] []) (z0f (Tryz.X76 m) 76 Q))) (cIf (k == (2:Int)) (cIf sd (True∧z0k (Tryz.X76 m) (cd PP 76 [1,1,1,1,1,1]) ([X,AV.ptr 0 0,X,X,X,X,Bo (z7d attr n)]++List.replicate 162 X) (St.mk [some (HB.cells [U op,U attr,U side,I n,AV.vs l len Tok.none] 71)] [] []) (z0f (Tryz.X76 m) 76 Q)) (z0k (Tryz.X76 m) (cd PP 76 [1,1,1,1,1,1]) ([X,AV.ptr 0 0,X,X,X,X,Bo false]++List.replicate 162 X) (St.mk [some (HB.cells [U op,U attr,U side,I n,AV.vs l len Tok.none] 71)] [] []) (z0f (Tryz.X76 m) 76 Q))) (z0k (Tryz.X76 m) (cd PP 76 [1,1,1,1,1,1]) ([X,AV.ptr 0 0,X,X,X,X,Bo false]++List.replicate 162 X) (St.mk [some (HB.cells [U op,U attr,U side,I n,AV.vs l len Tok.none] 71)] [] []) (z0f (Tryz.X76 m) 76 Q)))) (z0k (Tryz.X76 m) (cd PP 76 [1,1,1,1,1,1]) ([X,AV.ptr 0 0,X,X,X,X,Bo false]++List.replicate 162 X) (St.mk [some (HB.cells [U op,U attr,U side,I n,AV.vs l len Tok.none] 71)] [] []) (z0f (Tryz.X76 m) 76 Q))) (cIf (op == (6:Int)) (cIf lf (cIf (k == (1:Int)) (cIf sd (True∧z0k (Tryz.X76 m) (cd PP 76 [1,1,1,1,1,1]) ([X,AV.ptr 0 0,X,X,X,X,Bo (z7d attr n)]++List.replicate 162 X) (St.mk [some (HB.cells [U op,U attr,U side,I n,AV.vs l len Tok.none] 71)] [] []) (z0f (Tryz.X76 m) 76 Q)) (z0k (Tryz.X76 m) (cd PP 76 [1,1,1,1,1,1]) ([X,AV.ptr 0 0,X,X,X,X,Bo false]++List.replicate 162 X) (St.mk [some (HB.cells [U op,U attr,U side,I n,AV.vs l len Tok.none] 71)] [] []) (z0f (Tryz.X76 m) 76 Q))) (z0k (Tryz.X76 m) (cd PP 76 [1,1,1,1,1,1]) ([X,AV.ptr 0 0,X,X,X,X,Bo false]++List.replicate 162 X) (St.mk [some (HB.cells [U op,U attr,U side,I n,AV.vs l len Tok.none] 71)] [] []) (z0f (Tryz.X76 m) 76 Q))) (z0k (Tryz.X76 m) (cd PP 76 [1,1,1,1,1,1]) ([X,AV.ptr 0 0,X,X,X,X,Bo false]++List.replicate 162 X) (St.mk [some (HB.cells [U op,U attr,U side,I n,AV.vs l len Tok.none] 71)] [] []) (z0f (Tryz.X76 m) 76 Q))) (cIf (op == (7:Int)) (cIf ((↑len:Int) == (1:Int)) (cIf (attr == (0:Int)) (cIf (side == (0:Int)) (z0k (Tryz.X76 m) (cd PP 76 [1,1,1,1,1,1]) ([X,AV.ptr 0 0,X,X,X,X,Bo (n == (0:Int))]++List.replicate 162 X) (St.mk [some (HB.cells [U op,U attr,U side,I n,AV.vs l len Tok.none] 71)] [] []) (z0f (Tryz.X76 m) 76 Q)) (z0k (Tryz.X76 m) (cd PP 76 [1,1,1,1,1,1]) ([X,AV.ptr 0 0,X,X,X,X,Bo false]++List.replicate 162 X) (St.mk [some (HB.cells [U op,U attr,U side,I n,AV.vs l len Tok.none] 71)] [] []) (z0f (Tryz.X76 m) 76 Q))) (z0k (Tryz.X76 m) (cd PP 76 [1,1,1,1,1,1]) ([X,AV.ptr 0 0,X,X,X,X,Bo false]++List.replicate 162 X) (St.mk [some (HB.cells [U op,U attr,U side,I n,AV.vs l len Tok.none] 71)] [] []) (z0f (Tryz.X76 m) 76 Q))) (z0k (Tryz.X76 m) (cd PP 76 [1,1,1,1,1,1]) ([X,AV.ptr 0 0,X,X,X,X,Bo false]++List.replicate 162 X) (St.mk [some (HB.cells [U op,U attr,U side,I n,AV.vs l len Tok.none] 71)] [] []) (z0f (Tryz.X76 m) 76 Q))) (cIf (op == (8:Int)) (cIf (op == (8:Int)) (cIf (decide ((↑len:Int) ≥ (2:Int))) (cIf (attr == (0:Int)) (cIf (side == (0:Int)) (z0k (Tryz.X76 m) (cd PP 76 [1,1,1,1,1,1]) ([X,AV.ptr 0 0,X,X,X,X,Bo (n == (0:Int))]++List.replicate 162 X) (St.mk [some (HB.cells [U op,U attr,U side,I n,AV.vs l len Tok.none] 71)] [] []) (z0f (Tryz.X76 m) 76 Q)) (z0k (Tryz.X76 m) (cd PP 76 [1,1,1,1,1,1]) ([X,AV.ptr 0 0,X,X,X,X,Bo false]++List.replicate 162 X) (St.mk [some (HB.cells [U op,U attr,U side,I n,AV.vs l len Tok.none] 71)] [] []) (z0f (Tryz.X76 m) 76 Q))) (z0k (Tryz.X76 m) (cd PP 76 [1,1,1,1,1,1]) ([X,AV.ptr 0 0,X,X,X,X,Bo false]++List.replicate 162 X) (St.mk [some (HB.cells [U op,U attr,U side,I n,AV.vs l len Tok.none] 71)] [] []) (z0f (Tryz.X76 m) 76 Q))) (z0k (Tryz.X76 m) (cd PP 76 [1,1,1,1,1,1]) ([X,AV.ptr 0 0,X,X,X,X,Bo false]++List.replicate 162 X) (St.mk [some (HB.cells [U op,U attr,U side,I n,AV.vs l len Tok.none] 71)] [] []) (z0f (Tryz.X76 m) 76 Q))) (z0k (Tryz.X76 m) (cd PP 76 [1,1,1,1,1,1]) ([X,AV.ptr 0 0,X,X,X,X,Bo false]++List.replicate 162 X) (St.mk [some (HB.cells [U op,U attr,U side,I n,AV.vs l len Tok.none] 71)] [] []) (z0f (Tryz.X76 m) 76 Q))) (cIf (op == (9:Int)) (cIf (decide ((↑len:Int) ≥ (2:Int))) (cIf (attr == (0:Int)) (cIf (side == (0:Int)) (z0k (Tryz.X76 m) (cd PP 76 [1,1,1,1,1,1]) ([X,AV.ptr 0 0,X,X,X,X,Bo (n == (0:Int))]++List.replicate 162 X) (St.mk [some (HB.cells [U op,U attr,U side,I n,AV.vs l len Tok.none] 71)] [] []) (z0f (Tryz.X76 m) 76 Q)) (z0k (Tryz.X76 m) (cd PP 76 [1,1,1,1,1,1]) ([X,AV.ptr 0 0,X,X,X,X,Bo false]++List.replicate 162 X) (St.mk [some (HB.cells [U op,U attr,U side,I n,AV.vs l len Tok.none] 71)] [] []) (z0f (Tryz.X76 m) 76 Q))) (z0k (Tryz.X76 m) (cd PP 76 [1,1,1,1,1,1]) ([X,AV.ptr 0 0,X,X,X,X,Bo false]++List.replicate 162 X) (St.mk [some (HB.cells [U op,U attr,U side,I n,AV.vs l len Tok.none] 71)] [] []) (z0f (Tryz.X76 m) 76 Q))) (z0k (Tryz.X76 m) (cd PP 76 [1,1,1,1,1,1]) ([X,AV.ptr 0 0,X,X,X,X,Bo false]++List.replicate 162 X) (St.mk [some (HB.cells [U op,U attr,U side,I n,AV.vs l len Tok.none] 71)] [] []) (z0f (Tryz.X76 m) 76 Q))) (z0k (Tryz.X76 m) (cd PP 76 [1,1,1,1,1,1]) ([X,AV.ptr 0 0,X,X,X,X,Bo false]++List.replicate 162 X) (St.mk [some (HB.cells [U op,U attr,U side,I n,AV.vs l len Tok.none] 71)] [] []) (z0f (Tryz.X76 m) 76 Q))))))))))):=by kernel_rfl
theorem w57 (m:Nat) (op attr side n:Int) (l:List AV) (len:Nat) (ok:Bool) (Q:CR→Prop):wpC (Tryz.X76 m) (cd PP 76 [1,1,1,1,1,1]) ([X,.ptr 0 0,X,X,X,X,Bo ok]++List.replicate 162 X) ⟨[some (.cells [U op,U attr,U side,I n,.vs l len .none] 71)],[],[]⟩ (z0f (Tryz.X76 m) 76 Q) =
 (cIf ok ((∃ (ts:List Tst),l = z0q ts∧len = ts.length∧z6p ts∧ts.length ≤ 9223372036854775807∧z0o l + 1 < m)∧Q (CR.ret (Bo !z0g z0q (fun (ts:List Tst)=>decide (z94 ts (0:Int) ≥ (0:Int))) false l))) (Q (CR.ret (Bo false)))):=by kernel_rfl
end Go.Proofs
set_option maxRecDepth 100000
set_option linter.unusedVariables false
namespace Go.Proofs
open Go Go.Ev
theorem w4h:Ct Tryz.B.c0 120 R120:=Ct.of_wp (lm:=[]) Tryz.bok ((Cts.nil _).cons x71) ⟨_,_,Tryz.func120,rfl⟩ fun args D r hR hD=>by
 unfold R120 at hR
 split at hR <;> cases hR
 refine ⟨rfl,(w63 _ _ _).mpr (z0h (fun h=>z0h (fun h1=>?_) (fun h1=>?_)) (fun h=>z0h (fun h1=>z0h (fun h2=>?_) (fun h2=>?_)) (fun h1=>⟨trivial,z0h (fun h2=>?_) (fun h2=>?_)⟩)))⟩
 all_goals (apply z2r; simp [z7d] at *; simp [*]; try omega)
theorem w8d {m:Nat} (hc:Cts Tryz.B [(76,R76.below m)]):Ct Tryz.B.c0 122 (x0l m):=Ct.of_wp (lm:=[]) Tryz.bok hc ⟨_,_,Tryz.func122,rfl⟩ fun args D r hR hD=>by
 unfold x0l at hR
 split at hR <;> cases hR
 obtain ⟨⟨⟨op,attr,side,k,of⟩,rfl,hw⟩,hs⟩:=hD
 refine ⟨by simp [noHL,noH,z1k],?_⟩
 rw [show z0e 0 [AV.agg (z0m (.mk op attr side k of))] = [AV.agg (z0m (.mk op attr side k of))] by simp [z0e,scrub,z3q]]
 refine (w61 m op attr side k _ _ _).mpr ?_
 rw [show [U op,U attr,U side,I k,AV.vs (z0q of) of.length Tok.none] = z0m (.mk op attr side k of) from rfl]
 refine ⟨⟨⟨_,rfl,hw⟩,?_⟩,rfl⟩
 simp only [List.nil_append,List.append_nil,z0o,z2q] at *
 omega
theorem x50 {m:Nat} (hc:Cts Tryz.B [(122,x0l m)]) {of:List Tst} (hlen:of.length ≤ 9223372036854775807) (hwf:z6p of) (hsz:z0o (z0q of) + 1 < m) (tk:Tok) {Q:CR→Prop}:∀ (d i:Nat),of.length - i = d→i ≤ of.length→Q (rI (z94 (of.drop i) i)) →
  z0l (Tryz.X156 m) (cd PP 156 [1,0,1,0,0]) ([.vs (z0q of) of.length tk,.fn (.func 122) [] [],X,X,X,X,X,I of.length,I i]++List.replicate 10 X) ⟨[],[],[]⟩ (z0d 0 (z0i (Tryz.X156 m) (cd PP 156 [1,1]) (z0f (Tryz.X156 m) 156 Q))):=by
 intro d
 induction d with
 | zero =>
  intro i hd hi hQ
  have hi':i = of.length:=by omega
  subst hi'
  refine z1b Tryz.bok hc ((x7m m _ _ _ tk Q).mpr (z0p (by simp) ?_))
  simpa [z94] using hQ
 | succ d ih =>
  intro i hd hi hQ
  have hlt:i < of.length:=by omega
  obtain ⟨x,hx,hdr⟩:=z1p hlt
  rw [hdr] at hQ
  refine z1b Tryz.bok hc ((x7m m _ _ _ tk Q).mpr (z0b (by simp; omega) ?_))
  refine z0b (by simpa using hlt) (z0b (by simp [z1n]) (z0b (by have:=z03 (z1n of) hlt; simpa using this) ?_))
  rw [z6x hx,z6m]
  have hs:=z5y hx
  refine z0b (z2w x) ⟨⟨⟨x,rfl,z6u hwf hx⟩,by omega⟩,?_⟩
  rw [z0j (fun _ _=>z1a _ _),z09 (x:=(i:Int) + 1) (by omega) (by omega)]
  refine z0h (fun h=>?_) (fun h=>?_)
  ·have h:shT x = false:=by simpa using h
   simpa [z94,h] using hQ
  ·have h:shT x = true:=by simpa using h
   refine ih (i + 1) (by omega) (by omega) ?_
   simpa [z94,h] using hQ
theorem c156 {m:Nat} (hc:Cts Tryz.B [(122,x0l m)]):Ct Tryz.B.c0 156 (x25 m):=Ct.of_wp (lm:=[(2,[0,1,7,8]),(7,[])]) Tryz.bok hc ⟨_,_,Tryz.func156,rfl⟩ fun args D r hR hD=>by
 unfold x25 at hR
 split at hR <;> cases hR
 rename_i tk
 obtain ⟨ts,rfl,rfl,hw,hl,hs⟩:=hD
 refine ⟨by simp [noHL,noH,z19],?_⟩
 rw [show z0e 0 [AV.vs (z0q ts) ts.length tk,.fn (.func 122) [] []] = [AV.vs (z0q ts) ts.length (tk.scrub 0),.fn (.func 122) [] []] by simp [z0e,scrub,z7v],z0j z7g]
 exact (w6v m _ _ _ _).mpr (x50 hc hl hw hs _ _ 0 rfl (Nat.zero_le _) rfl)
theorem w8e {m:Nat} (hc:Cts Tryz.B [(156,x25 m)]):Ct Tryz.B.c0 121 (x0m m):=Ct.of_wp (lm:=[]) Tryz.bok hc ⟨_,_,Tryz.func121,rfl⟩ fun args D r hR hD=>by
 unfold x0m at hR
 split at hR <;> cases hR
 rename_i tk
 obtain ⟨ts,rfl,rfl,hw,hl,hs⟩:=hD
 refine ⟨by simp [noHL,noH,z19],?_⟩
 rw [show z0e 0 [AV.vs (z0q ts) ts.length tk,.fn (.func 122) [] []] = [AV.vs (z0q ts) ts.length (tk.scrub 0),.fn (.func 122) [] []] by simp [z0e,scrub,z7v],z0j z7g]
 refine (w62 m _ _ _ _).mpr ⟨⟨ts,rfl,rfl,hw,hl,hs⟩,?_⟩
 rw [z0j z7g]
theorem y9l:∀ (l:List Tst) (i:Int),0 ≤ i→(!decide (z94 l i ≥ 0)) = z5z l
 | [],i,h=>by simp [z94,z5z]
 | t :: l,i,h=>by
  simp only [z94,z5z]
  split
  ·rename_i hc
   rw [y9l l (i + 1) (by omega),hc]; rfl
  ·rename_i hc
   simp [hc,h]
theorem x8u (a:Int):(decide (a = 1) || decide (a = 2)) = (z3i a == 1):=by
 rw [Bool.eq_iff_iff]; simp [z3i]; split <;> (try split) <;> (try split) <;> (simp; omega)
theorem x8t (a:Int):(decide (3 ≤ a) && decide (a ≤ 5)) = (z3i a == 2):=by
 rw [Bool.eq_iff_iff]; simp [z3i]; split <;> (try split) <;> (try split) <;> (simp; omega)
theorem x8s (a:Int):(decide (a = 6) || decide (a = 7)) = (z3i a == 3):=by
 rw [Bool.eq_iff_iff]; simp [z3i]; split <;> (try split) <;> (try split) <;> (simp; omega)
theorem x8l {a n:Int} (h:z3i a = 1 ∨ z3i a = 2):z7d a n = y3h a n:=by
 unfold z7d y3h
 split
 ·rfl
 split
 ·rfl
 ·rcases h with h | h
  ·exfalso; simp only [z3i] at h; split at h <;> (try split at h) <;> (try split at h) <;> omega
  ·simp [h]; rfl
theorem x2h (a:Int):z3i a = 0 ∨ z3i a = 1 ∨ z3i a = 2 ∨ z3i a = 3:=by
 unfold z3i; split <;> (try split) <;> (try split) <;> omega
section
variable {m:Nat} (hc:Cts Tryz.B [(112,R112),(120,R120),(121,x0m m)]) {op attr side n:Int} {of:List Tst} (hlen:of.length ≤ 9223372036854775807) (hwf:z6p of) (hsz:z0o (z0q of) + 1 < m) {Q:CR→Prop}
include hc hlen hwf hsz
theorem w3i (ok:Bool) (hQ:Q (rB (ok && z5z of))):z0k (Tryz.X76 m) (cd PP 76 [1,1,1,1,1,1]) ([X,.ptr 0 0,X,X,X,X,Bo ok]++List.replicate 162 X) ⟨[some (.cells [U op,U attr,U side,I n,.vs (z0q of) of.length .none] 71)],[],[]⟩ (z0f (Tryz.X76 m) 76 Q):=by
 refine z4e Tryz.bok hc ((w57 m op attr side n _ _ ok Q).mpr (z0h (fun h=>?_) (fun h=>?_)))
 ·subst h
  refine ⟨⟨of,rfl,rfl,hwf,hlen,hsz⟩,?_⟩
  rw [z0j z7g,y9l of 0 (by omega)]
  simpa using hQ
 ·subst h
  simpa using hQ
set_option maxHeartbeats 8000000 in
theorem x7q (lf sd:Bool) (hlf:lf = decide (of.length = 0)) (hsd:sd = (decide (side = 1) || decide (side = 2))) (hQ:Q (rB (z99 op attr side n of.length && z5z of))):z0k (Tryz.X76 m) (cd PP 76 [1,1,1,1]) ([X,.ptr 0 0,X,I (z3i attr),Bo lf,Bo sd]++List.replicate 163 X) ⟨[some (.cells [U op,U attr,U side,I n,.vs (z0q of) of.length .none] 71)],[],[]⟩ (z0f (Tryz.X76 m) 76 Q):=by
 have hkr:=x2h attr
 have hrv:=@x8l attr n
 unfold z99 at hQ
 rw [x8u,x8t,x8s,← hsd] at hQ
 refine z4e Tryz.bok hc ((w58 m op attr side n (z3i attr) _ _ lf sd Q).mpr ?_)
 generalize z3i attr = k at *
 generalize z7d attr n = ir at *
 generalize y3h attr n = va at *
 repeat' (refine z0h (fun h=>?_) (fun h=>?_))
 all_goals (try (refine ⟨trivial,?_⟩))
 repeat' (refine z0h (fun h=>?_) (fun h=>?_))
 all_goals (refine w3i hc hlen hwf hsz _ ((congrArg Q (z2r ?_)).mpr hQ))
 all_goals (clear hQ hc hlen hwf hsz hsd; simp only [beq_iff_eq,beq_eq_false_iff_ne,ne_eq,bne_iff_ne,bne_eq_false_iff_eq] at *)
 all_goals (simp_all [z95] <;> omega)
end
set_option maxHeartbeats 2000000 in
theorem w75:Ct Tryz.B.c0 76 R76:=Ct.of_rec' ⟨_,_,Tryz.func76,rfl⟩ fun m args D r h76 hR hD hm=>by
 unfold R76 at hR
 split at hR <;> cases hR
 obtain ⟨⟨op,attr,side,k,of⟩,rfl,hw⟩:=hD
 simp only [wfT] at hw
 have hc:Cts Tryz.B [(112,R112),(120,R120),(121,x0m m)] :=
  (((Cts.nil _).cons (w8e ((Cts.nil _).cons (c156 ((Cts.nil _).cons (w8d ((Cts.nil _).cons h76))))))).cons w4h).cons x71
 refine ⟨by simp [noHL,noH,z1k],y2v (lm:=[(4,[1,3,4,5]),(22,[1,6])]) (tp:=[]) (ct:=[4,22]) (sm:=[]) Tryz.bok hc ?_⟩
 rw [show z0e 0 [AV.agg (z0m (.mk op attr side k of))] = [AV.agg (z0m (.mk op attr side k of))] by simp [z0e,scrub,z3q]]
 rw [z0j (fun _ _=>z1a _ _)]
 have hsz:z0o (z0q of) + 1 < m:=by simp only [z0o,z2q,z0m] at hm; omega
 refine (v76 m op attr side k _ _ _).mpr ⟨trivial,z0h (fun h=>?_) (fun h=>?_)⟩
 ·simp only [beq_iff_eq] at h
  exact x7q hc hw.2.2.2.2.2.2.2.2.1 hw.2.2.2.2.2.2.2.2.2 hsz _ _ (by rw [Bool.eq_iff_iff]; simp) (by simp [h]) rfl
 ·simp only [beq_eq_false_iff_ne,ne_eq] at h
  exact x7q hc hw.2.2.2.2.2.2.2.2.1 hw.2.2.2.2.2.2.2.2.2 hsz _ _ (by rw [Bool.eq_iff_iff]; simp) (by simp [h]; rfl) rfl
end Go.Proofs
set_option maxRecDepth 100000
set_option linter.unusedVariables false
namespace Go.Proofs
open Go Go.Ev
noncomputable def R74:Spc:=fun args=>match args with
 | [.agg l,.vp [.str b,.int .i64 _,.int .i64 _,.int .u8 _,.int .u8 _,.int .u8 _,.int .i64 _,.vs vl _ .none]]=>some ((∃ x,l = z1d x)∧noHL 0 vl = true∧z0e 0 vl = vl,rB (z0g z1d (fun x=>x.name == b) false l))
 | _=>none
def fnm (s:List UInt8):List Rul→Int→Int
 | [],_=>-1
 | x :: l,i=>if (x.name == s) = true then i else fnm s l (i + 1)
noncomputable def R119:Spc:=fun args=>match args with
 | [.vs l len .none,.fn (.func 74) [] [.vp [.str b,.int .i64 r,.int .i64 w,.int .u8 op,.int .u8 at',.int .u8 sd,.int .i64 n,.vs vl vn .none]]]=>some ((∃ rs,l = z0c rs∧len = rs.length∧rs.length ≤ 9223372036854775807)∧noHL 0 vl = true∧z0e 0 vl = vl,rI (z0g z0c (fun rs=>fnm b rs 0) 0 l))
 | _=>none
noncomputable def R73:Spc:=fun args=>match args with
 | [.vs l len .none,.fn (.func 74) [] [.vp [.str b,.int .i64 r,.int .i64 w,.int .u8 op,.int .u8 at',.int .u8 sd,.int .i64 n,.vs vl vn .none]]]=>some ((∃ rs,l = z0c rs∧len = rs.length∧rs.length ≤ 9223372036854775807)∧noHL 0 vl = true∧z0e 0 vl = vl,rB (z0g z0c (fun rs=>decide (fnm b rs 0 ≥ 0)) false l))
 | _=>none
noncomputable def Tryz.X74:WCx:=Tryz.B.wcx []
noncomputable def Tryz.X119:WCx:=Tryz.B.wcx [(74,R74)] [(2,[0,1,7,8]),(7,[])]
noncomputable def Tryz.X73:WCx:=Tryz.B.wcx [(119,R119)]
theorem v74 (a b:List UInt8) (r w op at' sd n r2 w2 op2 at2 sd2 n2:Int) (l l2:List AV) (k k2:Nat) (Q:CR→Prop):wpF Tryz.X74 74 [.agg [.str a,I r,I w,U op,U at',U sd,I n,.vs l k .none],.vp [.str b,I r2,I w2,U op2,U at2,U sd2,I n2,.vs l2 k2 .none]] Q =
 (Q (CR.ret (AV.bool (a == cS [AV.str b,I r2,I w2,U op2,U at2,U sd2,I n2,AV.vs l2 k2 Tok.none] 0)))):=by kernel_rfl
theorem w64 (b:List UInt8) (r w op at' sd n:Int) (vl:List AV) (vn:Nat) (l:List AV) (len:Nat) (Q:CR→Prop):wpF Tryz.X119 119 [.vs l len .none,.fn (.func 74) [] [.vp [.str b,I r,I w,U op,U at',U sd,I n,.vs vl vn .none]]] Q =
 (z0l Tryz.X119 (cd Tryz.X119.P 119 [1,0,1,0,0]) ([AV.vs l len Tok.none,AV.fn (Fn.func 74) [] [AV.vp [AV.str b,I r,I w,U op,U at',U sd,I n,AV.vs vl vn Tok.none]],X,X,X,X,X,I len,I 0]++List.replicate 10 X) (St.mk [] [] []) (z0d 0 (z0i Tryz.X119 (cd Tryz.X119.P 119 [1,1]) (z0f Tryz.X119 119 Q)))):=by kernel_rfl
theorem x7n (b:List UInt8) (r w op at' sd n:Int) (vl:List AV) (vn:Nat) (l:List AV) (len i:Nat) (Q:CR→Prop):wpC Tryz.X119 (cd PP 119 [1,0,1,0,0]) ([.vs l len .none,.fn (.func 74) [] [.vp [.str b,I r,I w,U op,U at',U sd,I n,.vs vl vn .none]],X,X,X,X,X,I len,I i]++List.replicate 10 X) ⟨[],[],[]⟩ (z0r Tryz.X119 (cd PP 119 [1,0,1,0,0]) (z0d 0 (z0i Tryz.X119 (cd PP 119 [1,1]) (z0f Tryz.X119 119 Q)))) =
 (cIf (decide ((↑i:Int) < (↑len:Int))) (cIf (decide (i < len)) (cIf (decide (len * 8 = l.length)) (cIf (decide (8 ≤ (List.drop (i * 8) l).length)) (cIf (like zR (el (List.drop (i * 8) l) 0 8)) (((∃ (x:Rul),(elR (el (List.drop (i * 8) l) 0 8)) = z1d x)∧noHL 0 vl = true∧z0e 0 vl = vl)∧cIf (z0g z1d (fun (x:Rul)=>x.name == b) false (elR (el (List.drop (i * 8) l) 0 8))) (Q (CR.ret (I i))) (z0l Tryz.X119 (cd PP 119 [1,0,1,0,0]) ([AV.vs l len Tok.none,AV.fn (Fn.func 74) [] [AV.vp [AV.str b,I r,I w,U op,U at',U sd,I n,AV.vs vl vn Tok.none]],X,X,X,X,X,I len,I (IntKind.i64.wrap ((↑i:Int) + (1:Int)))]++List.replicate 10 X) (St.mk [] [] []) (z0d 0 (z0i Tryz.X119 (cd PP 119 [1,1]) (z0f Tryz.X119 119 Q))))) False) False) False) False) (Q (CR.ret (I (-1))))):=by kernel_rfl
theorem v73 (b:List UInt8) (r w op at' sd n:Int) (vl:List AV) (vn:Nat) (l:List AV) (len:Nat) (Q:CR→Prop):wpF Tryz.X73 73 [.vs l len .none,.fn (.func 74) [] [.vp [.str b,I r,I w,U op,U at',U sd,I n,.vs vl vn .none]]] Q =
 (((∃ (rs:List Rul),l = z0c rs∧len = rs.length∧rs.length ≤ 9223372036854775807)∧noHL 0 vl = true∧z0e 0 vl = vl)∧Q (CR.ret (Bo (decide (z0g z0c (fun (rs:List Rul)=>fnm b rs (0:Int)) (0:Int) l ≥ (0:Int)))))):=by kernel_rfl
end Go.Proofs
set_option maxRecDepth 100000
set_option linter.unusedVariables false
namespace Go.Proofs
open Go Go.Ev
theorem w1t:Ct Tryz.B.c0 74 R74:=Ct.of_wp (lm:=[]) Tryz.bok (Cts.nil _) ⟨_,_,Tryz.func74,rfl⟩ fun args D r hR hD=>by
 unfold R74 at hR
 split at hR <;> cases hR
 obtain ⟨⟨x,rfl⟩,h1,h2⟩:=hD
 refine ⟨by simp [noHL,noH,z7c,h1],?_⟩
 rename_i b r w op at' sd n vl vn
 rw [show z0e 0 [AV.agg (z1d x),.vp [.str b,I r,I w,U op,U at',U sd,I n,.vs vl vn .none]] = [AV.agg (z1d x),.vp [.str b,I r,I w,U op,U at',U sd,I n,.vs vl vn .none]] by simp [z0e,scrub,y8i,h2,Tok.scrub],z0j (fun _ _=>y5x)]
 exact (v74 _ _ _ _ _ _ _ _ _ _ _ _ _ _ _ _ _ _ _).mpr rfl
section
variable {rs:List Rul} (hlen:rs.length ≤ 9223372036854775807) {b:List UInt8} {r w op at' sd n:Int} {vl:List AV} {vn:Nat} (h1:noHL 0 vl = true) (h2:z0e 0 vl = vl)
include hlen h1 h2
theorem x6g {Q:CR→Prop}:∀ (d i:Nat),rs.length - i = d→i ≤ rs.length→Q (rI (fnm b (rs.drop i) i)) →
  z0l Tryz.X119 (cd PP 119 [1,0,1,0,0]) ([.vs (z0c rs) rs.length .none,.fn (.func 74) [] [.vp [.str b,I r,I w,U op,U at',U sd,I n,.vs vl vn .none]],X,X,X,X,X,I rs.length,I i]++List.replicate 10 X) ⟨[],[],[]⟩ (z0d 0 (z0i Tryz.X119 (cd PP 119 [1,1]) (z0f Tryz.X119 119 Q))):=by
 have hc:Cts Tryz.B [(74,R74)]:=(Cts.nil _).cons w1t
 intro d
 induction d with
 | zero =>
  intro i hd hi hQ
  have hi':i = rs.length:=by omega
  subst hi'
  refine z1b Tryz.bok hc ((x7n _ _ _ _ _ _ _ _ _ _ _ _ Q).mpr (z0p (by simp) ?_))
  simpa [fnm] using hQ
 | succ d ih =>
  intro i hd hi hQ
  have hlt:i < rs.length:=by omega
  obtain ⟨x,hx,hdr⟩:=z1p hlt
  rw [hdr] at hQ
  refine z1b Tryz.bok hc ((x7n _ _ _ _ _ _ _ _ _ _ _ _ Q).mpr (z0b (by simp; omega) ?_))
  refine z0b (by simpa using hlt) (z0b (by simp [z02]) (z0b (by have:=z03 (z02 rs) hlt; simpa using this) ?_))
  rw [z4u hx,y2s]
  refine z0b (z4s x) ⟨⟨⟨x,rfl⟩,h1,h2⟩,?_⟩
  rw [z0j (fun _ _=>y5x),z09 (x:=(i:Int) + 1) (by omega) (by omega)]
  refine z0h (fun h=>?_) (fun h=>?_)
  ·simpa [fnm,h] using hQ
  ·refine ih (i + 1) (by omega) (by omega) ?_
   simpa [fnm,h] using hQ
end
theorem w4i:Ct Tryz.B.c0 119 R119:=Ct.of_wp (lm:=[(2,[0,1,7,8]),(7,[])]) Tryz.bok ((Cts.nil _).cons w1t) ⟨_,_,Tryz.func119,rfl⟩ fun args D r hR hD=>by
 unfold R119 at hR
 split at hR <;> cases hR
 obtain ⟨⟨rs,rfl,rfl,hl⟩,h1,h2⟩:=hD
 rename_i b r w op at' sd n vl vn
 refine ⟨by simp [noHL,noH,z0t,h1],?_⟩
 rw [show z0e 0 [AV.vs (z0c rs) rs.length .none,.fn (.func 74) [] [.vp [.str b,I r,I w,U op,U at',U sd,I n,.vs vl vn .none]]] = [AV.vs (z0c rs) rs.length .none,.fn (.func 74) [] [.vp [.str b,I r,I w,U op,U at',U sd,I n,.vs vl vn .none]]] by simp [z0e,scrub,z1f,h2,Tok.scrub],z0j z0u]
 exact (w64 _ _ _ _ _ _ _ _ _ _ _ _).mpr (x6g hl h1 h2 _ 0 rfl (Nat.zero_le _) rfl)
theorem ct73:Ct Tryz.B.c0 73 R73:=Ct.of_wp (lm:=[]) Tryz.bok ((Cts.nil _).cons w4i) ⟨_,_,Tryz.func73,rfl⟩ fun args D r hR hD=>by
 unfold R73 at hR
 split at hR <;> cases hR
 obtain ⟨⟨rs,rfl,rfl,hl⟩,h1,h2⟩:=hD
 rename_i b r w op at' sd n vl vn
 refine ⟨by simp [noHL,noH,z0t,h1],?_⟩
 rw [show z0e 0 [AV.vs (z0c rs) rs.length .none,.fn (.func 74) [] [.vp [.str b,I r,I w,U op,U at',U sd,I n,.vs vl vn .none]]] = [AV.vs (z0c rs) rs.length .none,.fn (.func 74) [] [.vp [.str b,I r,I w,U op,U at',U sd,I n,.vs vl vn .none]]] by simp [z0e,scrub,z1f,h2,Tok.scrub],z0j z0u]
 refine (v73 _ _ _ _ _ _ _ _ _ _ _ _).mpr ⟨⟨⟨rs,rfl,rfl,hl⟩,h1,h2⟩,?_⟩
 rw [z0j z0u]
theorem w1k:HookOk Tryz.B.c0 73 (y02 R73):=ct73.hookS Tryz.gtpB fun args D r hR hD=>by
 unfold R73 at hR
 split at hR <;> cases hR
 obtain ⟨⟨rs,rfl,rfl,hl⟩,h1,h2⟩:=hD
 simp [z0e,scrub,z1f,h2,Tok.scrub]
noncomputable def Tryz.BS:Base:={ Tryz.B with hw:=fun g=>match Nat.beq g 73 with | true=>some (y02 R73) | false=>none }
theorem Tryz.bsok:BaseOk Tryz.BS where
 eqt:=Tryz.bok.eqt
 codes:=Tryz.bok.codes
 nat:=Tryz.bok.nat
 mixed:=Tryz.bok.mixed
 names:=Tryz.bok.names
 gtp:=Tryz.bok.gtp
 hw:=fun g W h=>by
  simp only [Tryz.BS] at h
  split at h
  ·rename_i hg
   have:=Nat.eq_of_beq_eq_true hg
   subst this
   cases h
   exact w1k
  ·cases h
end Go.Proofs
