/- Contracts of functions of the program and of the reference. -/
import Derived.Test.YtljjkomdibkjpaaGreatDoorK20
import Derived.Test.YtljjkomdibkjpaaGreatDoorK21
import Derived.Test.YtljjkomdibkjpaaGreatDoorK17
import Derived.Test.YtljjkomdibkjpaaGreatDoorK18
set_option linter.unusedVariables false
set_option linter.unusedSimpArgs false
set_option maxRecDepth 100000
set_option linter.unusedVariables false
-- elP C19
namespace Go.Proofs
open Go Go.Ev
noncomputable def l15:List (FuncId × Spc):=[(20,R20),(23,R23),(24,R24),(34,R34),(47,R47),(48,R47),(49,R49)]
def v5a:List (Nat × List Nat):=[(11,[1,4,5,7,9,10,47,48]),(18,[7,9])]
noncomputable def Tryz.X15:WCx:=Tryz.B.wcx l15 v5a [] [] [(11,3)]
theorem v15 (l:List AV) (len:Nat) (Q:CR→Prop):wpF Tryz.X15 15 [.agg [.vs l len .none]] Q =
 ((∃ (rs:List Rul),l = z0c rs∧len = rs.length∧z1h rs∧(0:Int) ≤ (12:Int)∧(12:Int) ≤ (1000:Int))∧cIf (!z0g z0c (y5v (12:Int)) false l) (True∧Q (CR.ret (Bo true))) ((∃ (rs:List Rul),l = z0c rs∧len = rs.length∧z1h rs)∧(∃ (rs:List Rul),l = z0c rs∧len = rs.length∧z1h rs)∧(∃ (rs:List Rul),l = z0c rs∧len = rs.length∧z1h rs)∧cIf ((z0g z0c z4b ([],(0:Int)) l).snd != (z0g z0c z4b ([],(0:Int)) l).snd) (Q (CR.ret (Bo false))) (cIf ((z0g z0c z5q ([],(0:Int)) l).snd != (z0g z0c z4b ([],(0:Int)) l).snd) (Q (CR.ret (Bo false))) (((∃ (x:List Nat),encD (z0g z0c z4b ([],(0:Int)) l).fst = encD x∧(z0g z0c z4b ([],(0:Int)) l).fst.length = x.length∧x.length ≤ 1000)∧∃ (y:List Nat),encD (z0g z0c z4b ([],(0:Int)) l).fst = encD y∧(z0g z0c z4b ([],(0:Int)) l).fst.length = y.length∧y.length ≤ 1000)∧cIf (!z0g encD (fun (x:List Nat)=>z0g encD (fun (y:List Nat)=>x == y) false (encD (z0g z0c z4b ([],(0:Int)) l).fst)) false (encD (z0g z0c z4b ([],(0:Int)) l).fst)) (Q (CR.ret (Bo false))) (cIf (noHL 3 ([X,AV.ptr 0 0,X,X,I (z0g z0c z4b ([],(0:Int)) l).snd,AV.vs (encD (z0g z0c z4b ([],(0:Int)) l).fst) (z0g z0c z4b ([],(0:Int)) l).fst.length (tkZ (z0g z0c z4b ([],(0:Int)) l).fst),X,AV.ptr 1 0,X,AV.ptr 2 0,I 0,X,X,X,X,X,X,X,X,X,X,X,X,X,X,X,X,X,X,X,X,X,X,X,X,X,X,X,X,X,X,X,X,X,X,X,X,I len,I 0]++List.replicate 35 X)) (cIf ([some (HB.cells [AV.vs l len Tok.none] 25),some (HB.cells [AV.vs (z0c (z0g z0c z5q ([],(0:Int)) l).fst) (z0g z0c z5q ([],(0:Int)) l).fst.length Tok.none] 25),some (HB.cells [AV.vs [] 0 Tok.zero] 25)].all (okBlk 3)) (z0l Tryz.X15 (cd Tryz.X15.P 15 [1,1,1,1,1,1,1,1,0,1,0,0]) ([X,AV.ptr 0 0,X,X,I (z0g z0c z4b ([],(0:Int)) l).snd,AV.vs (encD (z0g z0c z4b ([],(0:Int)) l).fst) (z0g z0c z4b ([],(0:Int)) l).fst.length (tkZ (z0g z0c z4b ([],(0:Int)) l).fst),X,AV.ptr 1 0,X,AV.ptr 2 0,I 0,X,X,X,X,X,X,X,X,X,X,X,X,X,X,X,X,X,X,X,X,X,X,X,X,X,X,X,X,X,X,X,X,X,X,X,X,I len,I 0]++List.replicate 35 X) (St.mk [some (HB.cells [AV.vs l len Tok.none] 25),some (HB.cells [AV.vs (z0c (z0g z0c z5q ([],(0:Int)) l).fst) (z0g z0c z5q ([],(0:Int)) l).fst.length Tok.none] 25),some (HB.cells [AV.vs [] 0 Tok.zero] 25)] [] []) (z0d 0 (z0i Tryz.X15 (cd Tryz.X15.P 15 [1,1,1,1,1,1,1,1,1]) (z0f Tryz.X15 15 Q)))) False) False))))):=by kernel_rfl
theorem w8y (l pr ds:List AV) (len n np:Nat) (td:Tok) (e j i:Int) (Q:CR→Prop):wpC Tryz.X15 (cd PP 15 [1,1,1,1,1,1,1,1,0,1,0,0]) ([X,.ptr 0 0,X,X,I e,.vs ds n td,X,.ptr 1 0,X,.ptr 2 0,I j,X,X,X,X,X,X,X,X,X,X,X,X,X,X,X,X,X,X,X,X,X,X,X,X,X,X,X,X,X,X,X,X,X,X,X,X,I len,I i]++List.replicate 35 X) ⟨[some (.cells [.vs l len .none] 25),some (.cells [.vs pr np .none] 25),some (.cells [.vs [] 0 .zero] 25)],[],[]⟩ (z0r Tryz.X15 (cd PP 15 [1,1,1,1,1,1,1,1,0,1,0,0]) (z0d 0 (z0i Tryz.X15 (cd PP 15 [1,1,1,1,1,1,1,1,1]) (z0f Tryz.X15 15 Q)))) =
 (cIf (decide (i < (↑len:Int))) (cIf (decide (j < (↑n:Int))) (cIf (decide ((0:Int) ≤ j)) (cIf (decide (j.toNat < n)) (cIf (decide (n * 1 = ds.length)) (cIf (decide (0 < (List.drop (j.toNat * 1) ds).length)) (cIf (z1g (AV.ofVal (Value.int IntKind.i64 (0:Int))) ((List.drop (j.toNat * 1) ds).getD 0 X)) (cIf (cI (List.drop (j.toNat * 1) ds) 0 == i) (cIf (noHL 3 ([X,AV.ptr 0 0,X,X,I e,AV.vs ds n td,X,AV.ptr 1 0,X,AV.ptr 2 0,I (IntKind.i64.wrap (j + (1:Int))),X,X,X,X,X,X,X,X,X,X,X,X,X,X,X,X,X,X,X,X,X,X,X,X,X,X,X,X,X,X,X,X,X,X,X,X,I len,I (IntKind.i64.wrap (i + (1:Int)))]++List.replicate 35 X)) (cIf ([some (HB.cells [AV.vs l len Tok.none] 25),some (HB.cells [AV.vs pr np Tok.none] 25),some (HB.cells [AV.vs [] 0 Tok.zero] 25)].all (okBlk 3)) (z0l Tryz.X15 (cd PP 15 [1,1,1,1,1,1,1,1,0,1,0,0]) ([X,AV.ptr 0 0,X,X,I e,AV.vs ds n td,X,AV.ptr 1 0,X,AV.ptr 2 0,I (IntKind.i64.wrap (j + (1:Int))),X,X,X,X,X,X,X,X,X,X,X,X,X,X,X,X,X,X,X,X,X,X,X,X,X,X,X,X,X,X,X,X,X,X,X,X,I len,I (IntKind.i64.wrap (i + (1:Int)))]++List.replicate 35 X) (St.mk [some (HB.cells [AV.vs l len Tok.none] 25),some (HB.cells [AV.vs pr np Tok.none] 25),some (HB.cells [AV.vs [] 0 Tok.zero] 25)] [] []) (z0d 0 (z0i Tryz.X15 (cd PP 15 [1,1,1,1,1,1,1,1,1]) (z0f Tryz.X15 15 Q)))) False) False) (cIf (e == (0:Int)) (cIf (decide ((0:Int) ≤ i)) (cIf (decide (i.toNat < len)) (cIf (decide (len * 8 = l.length)) (cIf (decide (8 ≤ (List.drop (i.toNat * 8) l).length)) (cIf (like zR (el (List.drop (i.toNat * 8) l) 0 8)) (cIf (noHL 3 ([X,AV.ptr 0 0,X,X,I e,AV.vs ds n td,X,AV.ptr 1 0,X,AV.ptr 2 0,I j,X,X,X,X,X,X,X,X,X,X,X,X,X,X,X,X,X,X,X,X,X,X,X,X,X,X,X,X,X,X,X,X,X,X,X,X,I len,I (IntKind.i64.wrap (i + (1:Int)))]++List.replicate 35 X)) (cIf ([some (HB.cells [AV.vs l len Tok.none] 25),some (HB.cells [AV.vs pr np Tok.none] 25),some (HB.cells [AV.vs (elR (el (List.drop (i.toNat * 8) l) 0 8)) 1 (Tok.own 0)] 25)].all (okBlk 3)) (z0l Tryz.X15 (cd PP 15 [1,1,1,1,1,1,1,1,0,1,0,0]) ([X,AV.ptr 0 0,X,X,I e,AV.vs ds n td,X,AV.ptr 1 0,X,AV.ptr 2 0,I j,X,X,X,X,X,X,X,X,X,X,X,X,X,X,X,X,X,X,X,X,X,X,X,X,X,X,X,X,X,X,X,X,X,X,X,X,I len,I (IntKind.i64.wrap (i + (1:Int)))]++List.replicate 35 X) (St.mk [some (HB.cells [AV.vs l len Tok.none] 25),some (HB.cells [AV.vs pr np Tok.none] 25),some (HB.cells [AV.vs (elR (el (List.drop (i.toNat * 8) l) 0 8)) 1 (Tok.own 0)] 25)] [(1,8,73)] []) (z0d 0 (z0i Tryz.X15 (cd PP 15 [1,1,1,1,1,1,1,1,1]) (z0f Tryz.X15 15 Q)))) False) False) False) False) False) False) False) (cIf (noHL 3 ([X,AV.ptr 0 0,X,X,I e,AV.vs ds n td,X,AV.ptr 1 0,X,AV.ptr 2 0,I j,X,X,X,X,X,X,X,X,X,X,X,X,X,X,X,X,X,X,X,X,X,X,X,X,X,X,X,X,X,X,X,X,X,X,X,X,I len,I (IntKind.i64.wrap (i + (1:Int)))]++List.replicate 35 X)) (cIf ([some (HB.cells [AV.vs l len Tok.none] 25),some (HB.cells [AV.vs pr np Tok.none] 25),some (HB.cells [AV.vs [] 0 Tok.zero] 25)].all (okBlk 3)) (z0l Tryz.X15 (cd PP 15 [1,1,1,1,1,1,1,1,0,1,0,0]) ([X,AV.ptr 0 0,X,X,I e,AV.vs ds n td,X,AV.ptr 1 0,X,AV.ptr 2 0,I j,X,X,X,X,X,X,X,X,X,X,X,X,X,X,X,X,X,X,X,X,X,X,X,X,X,X,X,X,X,X,X,X,X,X,X,X,I len,I (IntKind.i64.wrap (i + (1:Int)))]++List.replicate 35 X) (St.mk [some (HB.cells [AV.vs l len Tok.none] 25),some (HB.cells [AV.vs pr np Tok.none] 25),some (HB.cells [AV.vs [] 0 Tok.zero] 25)] [] []) (z0d 0 (z0i Tryz.X15 (cd PP 15 [1,1,1,1,1,1,1,1,1]) (z0f Tryz.X15 15 Q)))) False) False))) False) False) False) False) False) (cIf (e == (0:Int)) (cIf (decide ((0:Int) ≤ i)) (cIf (decide (i.toNat < len)) (cIf (decide (len * 8 = l.length)) (cIf (decide (8 ≤ (List.drop (i.toNat * 8) l).length)) (cIf (like zR (el (List.drop (i.toNat * 8) l) 0 8)) (cIf (noHL 3 ([X,AV.ptr 0 0,X,X,I e,AV.vs ds n td,X,AV.ptr 1 0,X,AV.ptr 2 0,I j,X,X,X,X,X,X,X,X,X,X,X,X,X,X,X,X,X,X,X,X,X,X,X,X,X,X,X,X,X,X,X,X,X,X,X,X,I len,I (IntKind.i64.wrap (i + (1:Int)))]++List.replicate 35 X)) (cIf ([some (HB.cells [AV.vs l len Tok.none] 25),some (HB.cells [AV.vs pr np Tok.none] 25),some (HB.cells [AV.vs (elR (el (List.drop (i.toNat * 8) l) 0 8)) 1 (Tok.own 0)] 25)].all (okBlk 3)) (z0l Tryz.X15 (cd PP 15 [1,1,1,1,1,1,1,1,0,1,0,0]) ([X,AV.ptr 0 0,X,X,I e,AV.vs ds n td,X,AV.ptr 1 0,X,AV.ptr 2 0,I j,X,X,X,X,X,X,X,X,X,X,X,X,X,X,X,X,X,X,X,X,X,X,X,X,X,X,X,X,X,X,X,X,X,X,X,X,I len,I (IntKind.i64.wrap (i + (1:Int)))]++List.replicate 35 X) (St.mk [some (HB.cells [AV.vs l len Tok.none] 25),some (HB.cells [AV.vs pr np Tok.none] 25),some (HB.cells [AV.vs (elR (el (List.drop (i.toNat * 8) l) 0 8)) 1 (Tok.own 0)] 25)] [(1,8,73)] []) (z0d 0 (z0i Tryz.X15 (cd PP 15 [1,1,1,1,1,1,1,1,1]) (z0f Tryz.X15 15 Q)))) False) False) False) False) False) False) False) (cIf (noHL 3 ([X,AV.ptr 0 0,X,X,I e,AV.vs ds n td,X,AV.ptr 1 0,X,AV.ptr 2 0,I j,X,X,X,X,X,X,X,X,X,X,X,X,X,X,X,X,X,X,X,X,X,X,X,X,X,X,X,X,X,X,X,X,X,X,X,X,I len,I (IntKind.i64.wrap (i + (1:Int)))]++List.replicate 35 X)) (cIf ([some (HB.cells [AV.vs l len Tok.none] 25),some (HB.cells [AV.vs pr np Tok.none] 25),some (HB.cells [AV.vs [] 0 Tok.zero] 25)].all (okBlk 3)) (z0l Tryz.X15 (cd PP 15 [1,1,1,1,1,1,1,1,0,1,0,0]) ([X,AV.ptr 0 0,X,X,I e,AV.vs ds n td,X,AV.ptr 1 0,X,AV.ptr 2 0,I j,X,X,X,X,X,X,X,X,X,X,X,X,X,X,X,X,X,X,X,X,X,X,X,X,X,X,X,X,X,X,X,X,X,X,X,X,I len,I (IntKind.i64.wrap (i + (1:Int)))]++List.replicate 35 X) (St.mk [some (HB.cells [AV.vs l len Tok.none] 25),some (HB.cells [AV.vs pr np Tok.none] 25),some (HB.cells [AV.vs [] 0 Tok.zero] 25)] [] []) (z0d 0 (z0i Tryz.X15 (cd PP 15 [1,1,1,1,1,1,1,1,1]) (z0f Tryz.X15 15 Q)))) False) False))) (True∧((∃ (rs:List Rul),pr = z0c rs∧np = rs.length∧z1h rs)∧[] = pr∧0 = np)∧Q (CR.ret (Bo true)))):=by kernel_rfl
theorem v4o (l pr ds:List AV) (len n np:Nat) (td:Tok) (e j i:Int) (cs:List AV) (c k:Nat) (T:List (Nat × (Nat × Nat))) (Q:CR→Prop):wpC Tryz.X15 (cd PP 15 [1,1,1,1,1,1,1,1,0,1,0,0]) ([X,.ptr 0 0,X,X,I e,.vs ds n td,X,.ptr 1 0,X,.ptr 2 0,I j,X,X,X,X,X,X,X,X,X,X,X,X,X,X,X,X,X,X,X,X,X,X,X,X,X,X,X,X,X,X,X,X,X,X,X,X,I len,I i]++List.replicate 35 X) ⟨[some (.cells [.vs l len .none] 25),some (.cells [.vs pr np .none] 25),some (.cells [.vs cs c (.own k)] 25)],T,[]⟩ (z0r Tryz.X15 (cd PP 15 [1,1,1,1,1,1,1,1,0,1,0,0]) (z0d 0 (z0i Tryz.X15 (cd PP 15 [1,1,1,1,1,1,1,1,1]) (z0f Tryz.X15 15 Q)))) =
 (cIf (decide (i < (↑len:Int))) (cIf (decide (j < (↑n:Int))) (cIf (decide ((0:Int) ≤ j)) (cIf (decide (j.toNat < n)) (cIf (decide (n * 1 = ds.length)) (cIf (decide (0 < (List.drop (j.toNat * 1) ds).length)) (cIf (z1g (AV.ofVal (Value.int IntKind.i64 (0:Int))) ((List.drop (j.toNat * 1) ds).getD 0 X)) (cIf (cI (List.drop (j.toNat * 1) ds) 0 == i) (cIf (noHL 3 ([X,AV.ptr 0 0,X,X,I e,AV.vs ds n td,X,AV.ptr 1 0,X,AV.ptr 2 0,I (IntKind.i64.wrap (j + (1:Int))),X,X,X,X,X,X,X,X,X,X,X,X,X,X,X,X,X,X,X,X,X,X,X,X,X,X,X,X,X,X,X,X,X,X,X,X,I len,I (IntKind.i64.wrap (i + (1:Int)))]++List.replicate 35 X)) (cIf ([some (HB.cells [AV.vs l len Tok.none] 25),some (HB.cells [AV.vs pr np Tok.none] 25),some (HB.cells [AV.vs cs c (Tok.own k)] 25)].all (okBlk 3)) (z0l Tryz.X15 (cd PP 15 [1,1,1,1,1,1,1,1,0,1,0,0]) ([X,AV.ptr 0 0,X,X,I e,AV.vs ds n td,X,AV.ptr 1 0,X,AV.ptr 2 0,I (IntKind.i64.wrap (j + (1:Int))),X,X,X,X,X,X,X,X,X,X,X,X,X,X,X,X,X,X,X,X,X,X,X,X,X,X,X,X,X,X,X,X,X,X,X,X,I len,I (IntKind.i64.wrap (i + (1:Int)))]++List.replicate 35 X) (St.mk [some (HB.cells [AV.vs l len Tok.none] 25),some (HB.cells [AV.vs pr np Tok.none] 25),some (HB.cells [AV.vs cs c (Tok.own k)] 25)] T []) (z0d 0 (z0i Tryz.X15 (cd PP 15 [1,1,1,1,1,1,1,1,1]) (z0f Tryz.X15 15 Q)))) False) False) (cIf (e == (0:Int)) (cIf (decide ((0:Int) ≤ i)) (cIf (decide (i.toNat < len)) (cIf (decide (len * 8 = l.length)) (cIf (decide (8 ≤ (List.drop (i.toNat * 8) l).length)) (cIf (like zR (el (List.drop (i.toNat * 8) l) 0 8)) (cIf (decide ((c + 1) * 72 ≤ 140737488355328)) (cIf (decide (c + 1 ≤ 140737488355328)) (cIf (decide (cs.length = c * 8)) (cIf (decide (T[k]? = some (c,8,73))) (cIf (noHL 3 ([X,AV.ptr 0 0,X,X,I e,AV.vs ds n td,X,AV.ptr 1 0,X,AV.ptr 2 0,I j,X,X,X,X,X,X,X,X,X,X,X,X,X,X,X,X,X,X,X,X,X,X,X,X,X,X,X,X,X,X,X,X,X,X,X,X,I len,I (IntKind.i64.wrap (i + (1:Int)))]++List.replicate 35 X)) (cIf ([some (HB.cells [AV.vs l len Tok.none] 25),some (HB.cells [AV.vs pr np Tok.none] 25),some (HB.cells [AV.vs (cs++(elR (el (List.drop (i.toNat * 8) l) 0 8))) (c + 1) (Tok.own k)] 25)].all (okBlk 3)) (z0l Tryz.X15 (cd PP 15 [1,1,1,1,1,1,1,1,0,1,0,0]) ([X,AV.ptr 0 0,X,X,I e,AV.vs ds n td,X,AV.ptr 1 0,X,AV.ptr 2 0,I j,X,X,X,X,X,X,X,X,X,X,X,X,X,X,X,X,X,X,X,X,X,X,X,X,X,X,X,X,X,X,X,X,X,X,X,X,I len,I (IntKind.i64.wrap (i + (1:Int)))]++List.replicate 35 X) (St.mk [some (HB.cells [AV.vs l len Tok.none] 25),some (HB.cells [AV.vs pr np Tok.none] 25),some (HB.cells [AV.vs (cs++(elR (el (List.drop (i.toNat * 8) l) 0 8))) (c + 1) (Tok.own k)] 25)] (T.set k (c + 1,8,73)) []) (z0d 0 (z0i Tryz.X15 (cd PP 15 [1,1,1,1,1,1,1,1,1]) (z0f Tryz.X15 15 Q)))) False) False) False) False) False) False) False) False) False) False) False) (cIf (noHL 3 ([X,AV.ptr 0 0,X,X,I e,AV.vs ds n td,X,AV.ptr 1 0,X,AV.ptr 2 0,I j,X,X,X,X,X,X,X,X,X,X,X,X,X,X,X,X,X,X,X,X,X,X,X,X,X,X,X,X,X,X,X,X,X,X,X,X,I len,I (IntKind.i64.wrap (i + (1:Int)))]++List.replicate 35 X)) (cIf ([some (HB.cells [AV.vs l len Tok.none] 25),some (HB.cells [AV.vs pr np Tok.none] 25),some (HB.cells [AV.vs cs c (Tok.own k)] 25)].all (okBlk 3)) (z0l Tryz.X15 (cd PP 15 [1,1,1,1,1,1,1,1,0,1,0,0]) ([X,AV.ptr 0 0,X,X,I e,AV.vs ds n td,X,AV.ptr 1 0,X,AV.ptr 2 0,I j,X,X,X,X,X,X,X,X,X,X,X,X,X,X,X,X,X,X,X,X,X,X,X,X,X,X,X,X,X,X,X,X,X,X,X,X,I len,I (IntKind.i64.wrap (i + (1:Int)))]++List.replicate 35 X) (St.mk [some (HB.cells [AV.vs l len Tok.none] 25),some (HB.cells [AV.vs pr np Tok.none] 25),some (HB.cells [AV.vs cs c (Tok.own k)] 25)] T []) (z0d 0 (z0i Tryz.X15 (cd PP 15 [1,1,1,1,1,1,1,1,1]) (z0f Tryz.X15 15 Q)))) False) False))) False) False) False) False) False) (cIf (e == (0:Int)) (cIf (decide ((0:Int) ≤ i)) (cIf (decide (i.toNat < len)) (cIf (decide (len * 8 = l.length)) (cIf (decide (8 ≤ (List.drop (i.toNat * 8) l).length)) (cIf (like zR (el (List.drop (i.toNat * 8) l) 0 8)) (cIf (decide ((c + 1) * 72 ≤ 140737488355328)) (cIf (decide (c + 1 ≤ 140737488355328)) (cIf (decide (cs.length = c * 8)) (cIf (decide (T[k]? = some (c,8,73))) (cIf (noHL 3 ([X,AV.ptr 0 0,X,X,I e,AV.vs ds n td,X,AV.ptr 1 0,X,AV.ptr 2 0,I j,X,X,X,X,X,X,X,X,X,X,X,X,X,X,X,X,X,X,X,X,X,X,X,X,X,X,X,X,X,X,X,X,X,X,X,X,I len,I (IntKind.i64.wrap (i + (1:Int)))]++List.replicate 35 X)) (cIf ([some (HB.cells [AV.vs l len Tok.none] 25),some (HB.cells [AV.vs pr np Tok.none] 25),some (HB.cells [AV.vs (cs++(elR (el (List.drop (i.toNat * 8) l) 0 8))) (c + 1) (Tok.own k)] 25)].all (okBlk 3)) (z0l Tryz.X15 (cd PP 15 [1,1,1,1,1,1,1,1,0,1,0,0]) ([X,AV.ptr 0 0,X,X,I e,AV.vs ds n td,X,AV.ptr 1 0,X,AV.ptr 2 0,I j,X,X,X,X,X,X,X,X,X,X,X,X,X,X,X,X,X,X,X,X,X,X,X,X,X,X,X,X,X,X,X,X,X,X,X,X,I len,I (IntKind.i64.wrap (i + (1:Int)))]++List.replicate 35 X) (St.mk [some (HB.cells [AV.vs l len Tok.none] 25),some (HB.cells [AV.vs pr np Tok.none] 25),some (HB.cells [AV.vs (cs++(elR (el (List.drop (i.toNat * 8) l) 0 8))) (c + 1) (Tok.own k)] 25)] (T.set k (c + 1,8,73)) []) (z0d 0 (z0i Tryz.X15 (cd PP 15 [1,1,1,1,1,1,1,1,1]) (z0f Tryz.X15 15 Q)))) False) False) False) False) False) False) False) False) False) False) False) (cIf (noHL 3 ([X,AV.ptr 0 0,X,X,I e,AV.vs ds n td,X,AV.ptr 1 0,X,AV.ptr 2 0,I j,X,X,X,X,X,X,X,X,X,X,X,X,X,X,X,X,X,X,X,X,X,X,X,X,X,X,X,X,X,X,X,X,X,X,X,X,I len,I (IntKind.i64.wrap (i + (1:Int)))]++List.replicate 35 X)) (cIf ([some (HB.cells [AV.vs l len Tok.none] 25),some (HB.cells [AV.vs pr np Tok.none] 25),some (HB.cells [AV.vs cs c (Tok.own k)] 25)].all (okBlk 3)) (z0l Tryz.X15 (cd PP 15 [1,1,1,1,1,1,1,1,0,1,0,0]) ([X,AV.ptr 0 0,X,X,I e,AV.vs ds n td,X,AV.ptr 1 0,X,AV.ptr 2 0,I j,X,X,X,X,X,X,X,X,X,X,X,X,X,X,X,X,X,X,X,X,X,X,X,X,X,X,X,X,X,X,X,X,X,X,X,X,I len,I (IntKind.i64.wrap (i + (1:Int)))]++List.replicate 35 X) (St.mk [some (HB.cells [AV.vs l len Tok.none] 25),some (HB.cells [AV.vs pr np Tok.none] 25),some (HB.cells [AV.vs cs c (Tok.own k)] 25)] T []) (z0d 0 (z0i Tryz.X15 (cd PP 15 [1,1,1,1,1,1,1,1,1]) (z0f Tryz.X15 15 Q)))) False) False))) (True∧((∃ (rs:List Rul),pr = z0c rs∧np = rs.length∧z1h rs)∧cs = pr∧c = np)∧Q (CR.ret (Bo true)))):=by kernel_rfl
end Go.Proofs
set_option maxRecDepth 100000
set_option linter.unusedVariables false
namespace Go.Proofs
open Go Go.Ev
theorem y9u {rs:List Rul} {o:List Bool} {L:List Nat} {x:Rul} (h:x ∈ z3j rs o L):x ∈ rs:=by
 unfold z3j at h
 rw [List.mem_filterMap] at h
 obtain ⟨i,_,h⟩:=h
 split at h
 ·exact List.mem_of_getElem? h
 ·cases h
theorem x4c (rs:List Rul) (o:List Bool) (L:List Nat):(z3j rs o L).length ≤ L.length:=by
 unfold z3j
 exact List.length_filterMap_le _ _
theorem x9r {rs:List Rul} (hrs:z1j rs) (o:List Bool):z1h (z3j rs o (List.range rs.length)):=by
 refine ⟨?_,fun x hx=>hrs.1.2 x (y9u hx)⟩
 have h1:=x4c rs o (List.range rs.length)
 have h2:=hrs.2.1
 rw [List.length_range] at h1
 omega
theorem w5i {n i a:Nat} (h:a ∈ (List.range n).drop i):i ≤ a:=by
 obtain ⟨k,hk⟩:=List.getElem?_of_mem h
 rw [List.getElem?_drop] at hk
 have:=(List.getElem?_eq_some_iff.1 hk)
 obtain ⟨h1,h2⟩:=this
 rw [List.getElem_range] at h2
 omega
theorem c15:Cts Tryz.B l15:=(((((((Cts.nil _).cons v1i).cons v7w).cons v1j).cons w78).cons x77).cons v7z).cons x78
theorem o15:Tryz.X15.Ones:=z0y Tryz.bok c15
theorem k15:CxOk Tryz.X15.cx:=z1e Tryz.bok c15
theorem e15 (ds:List Nat) (td:Tok) (n m:Nat) (e j i:Int):noHL 3 ([X,AV.ptr 0 0,X,X,I e,AV.vs (encD ds) n td,X,AV.ptr 1 0,X,AV.ptr 2 0,I j,X,X,X,X,X,X,X,X,X,X,X,X,X,X,X,X,X,X,X,X,X,X,X,X,X,X,X,X,X,X,X,X,X,X,X,X,I (m:Int),I i]++List.replicate 35 X) = true:=by
 refine z6j ?_ (z2e 3 35)
 simp [noHL,noH,z1t]
theorem b15 (rs pr cs:List Rul) (t:Tok):[some (HB.cells [AV.vs (z0c rs) rs.length Tok.none] 25),some (HB.cells [AV.vs (z0c pr) pr.length Tok.none] 25),some (HB.cells [AV.vs (z0c cs) cs.length t] 25)].all (okBlk 3) = true:=by
 simp [okBlk,noHB,noHL,noH,z0t]
theorem w5h {o:List Bool} {ds:List Nat} {n i j:Nat} (hi:i < n) (h:ds.drop j = ((List.range n).drop i).filter fun i=>!o.getD i false) :
  (o.getD i false = false→j < ds.length∧gN ds j = i∧ds.drop (j + 1) = ((List.range n).drop (i + 1)).filter fun i=>!o.getD i false) ∧
  (o.getD i false = true→ds.drop j = (((List.range n).drop (i + 1)).filter fun i=>!o.getD i false)∧(j < ds.length→gN ds j ≠ i)):=by
 rw [z5e hi] at h
 refine ⟨fun ho=>?_,fun ho=>?_⟩
 ·rw [List.filter_cons_of_pos (p:=fun i=>!o.getD i false) (by rw [ho]; rfl)] at h
  have hj:j < ds.length:=by
   rcases Nat.lt_or_ge j ds.length with h1 | h1
   ·exact h1
   ·rw [List.drop_eq_nil_of_le h1] at h; cases h
  obtain ⟨a,ha,hd⟩:=z1p hj
  rw [hd] at h
  obtain ⟨rfl,h2⟩:=List.cons.inj h
  exact ⟨hj,by simp [gN,List.getD_eq_getElem?_getD,ha],h2⟩
 ·rw [List.filter_cons_of_neg (p:=fun i=>!o.getD i false) (by rw [ho]; simp)] at h
  refine ⟨h,fun hj he=>?_⟩
  obtain ⟨a,ha,hd⟩:=z1p hj
  rw [hd] at h
  have hm:a ∈ ((List.range n).drop (i + 1)).filter fun i=>!o.getD i false:=by rw [← h]; exact List.mem_cons_self
  have:=w5i (List.mem_filter.1 hm).1
  have:gN ds j = a:=by simp [gN,List.getD_eq_getElem?_getD,ha]
  omega
section
variable {rs:List Rul} (hrs:z1j rs) {o:List Bool} {ds:List Nat} (hds:ds.length ≤ 1000) (td:Tok)
include hrs hds
theorem v7n:∀ (d i j:Nat) (acc:List Rul) (k:Nat) (T:List (Nat × (Nat × Nat))),rs.length - i = d→i ≤ rs.length→j ≤ 1000→acc.length ≤ i→T[k]? = some (acc.length,8,73)→ds.drop j = (((List.range rs.length).drop i).filter fun i=>!o.getD i false)→acc++z3j rs o ((List.range rs.length).drop i) = z3j rs o (List.range rs.length) →
  z0l Tryz.X15 (cd PP 15 [1,1,1,1,1,1,1,1,0,1,0,0]) ([X,.ptr 0 0,X,X,I 0,.vs (encD ds) ds.length td,X,.ptr 1 0,X,.ptr 2 0,I j,X,X,X,X,X,X,X,X,X,X,X,X,X,X,X,X,X,X,X,X,X,X,X,X,X,X,X,X,X,X,X,X,X,X,X,X,I rs.length,I i]++List.replicate 35 X) ⟨[some (.cells [.vs (z0c rs) rs.length .none] 25),some (.cells [.vs (z0c (z3j rs o (List.range rs.length))) (z3j rs o (List.range rs.length)).length .none] 25),some (.cells [.vs (z0c acc) acc.length (.own k)] 25)],T,[]⟩ (z0d 0 (z0i Tryz.X15 (cd PP 15 [1,1,1,1,1,1,1,1,1]) (z0f Tryz.X15 15 fun r'=>r' = rB true))):=by
 have hn:=hrs.2.1
 intro d
 induction d with
 | zero =>
  intro i j acc k T hd hi hj ha hT hdr hk
  have hi':i = rs.length:=by omega
  subst hi'
  rw [List.drop_of_length_le (by simp),show z3j rs o [] = [] from rfl,List.append_nil] at hk
  refine z0n (C:=Tryz.X15) o15 k15 ?_
  rw [v4o]
  exact z0p (decide_eq_false (by omega)) ⟨trivial,⟨⟨_,rfl,rfl,x9r hrs o⟩,by rw [hk],by rw [hk]⟩,rfl⟩
 | succ d ih =>
  intro i j acc k T hd hi hj ha hT hdr hk
  have hlt:i < rs.length:=by omega
  obtain ⟨x,hx⟩:∃ x,rs[i]? = some x:=⟨_,List.getElem?_eq_getElem hlt⟩
  have hk':k < T.length:=(List.getElem?_eq_some_iff.1 hT).1
  rw [z5e hlt] at hk
  obtain ⟨s1,s2⟩:=w5h hlt hdr
  refine z0n (C:=Tryz.X15) o15 k15 ?_
  rw [v4o,Int.toNat_natCast i,z4u hx,x1b,wA1 (a:=i) (by omega),wA1 (a:=j) (by omega),x46]
  refine z0b (decide_eq_true (by omega)) ?_
  cases ho:o.getD i false with
  | false =>
   obtain ⟨h1,h2,h3⟩:=s1 ho
   rw [y6k _ ho] at hk
   refine z0b (decide_eq_true (by omega)) (z0b (z0z _) (z0b (row_in h1) (z0b (decide_eq_true (by rw [z4v]; omega)) (z0b (z86 h1) (z0b (y1c h1) (z0b ?_ ?_))))))
   ·rw [y1d h1,h2]; simp
   ·exact z0b (e15 _ _ _ _ _ _ _) (z0b (b15 _ _ _ _) (ih (i + 1) (j + 1) acc k T (by omega) (by omega) (by omega) (by omega) hT h3 hk))
  | true =>
   obtain ⟨h1,h2⟩:=s2 ho
   rw [y6j _ ho hx,List.append_cons] at hk
   have hb:=b15 rs (z3j rs o (List.range rs.length)) (acc++[x]) (.own k)
   have hl:=ih (i + 1) j (acc++[x]) k (T.set k (acc.length + 1,8,73)) (by omega) (by omega) hj (by simp; omega) (by rw [List.length_append]; exact List.getElem?_set_self hk') h1 hk
   rw [List.length_append] at hb hl
   have hlen:decide ((z0c acc).length = acc.length * 8) = true:=decide_eq_true (by rw [z02])
   refine z0h (fun hjn=>?_) (fun hjn=>?_)
   ·have hjn:j < ds.length:=by have:=of_decide_eq_true hjn; omega
    refine z0b (z0z _) (z0b (row_in hjn) (z0b (decide_eq_true (by rw [z4v]; omega)) (z0b (z86 hjn) (z0b (y1c hjn) (z0p ?_ ?_)))))
    ·rw [y1d hjn]
     have:=h2 hjn
     rw [beq_eq_false_iff_ne]; omega
    ·exact z0b rfl (z0b (z0z _) (z0b (decide_eq_true hlt) (z0b (decide_eq_true (z02 rs).symm) (z0b (decide_eq_true (z03 (z02 rs) hlt)) (z0b (z4s x) (z0b (decide_eq_true (by omega)) (z0b (decide_eq_true (by omega)) (z0b hlen (z0b (decide_eq_true hT) (z0b (e15 _ _ _ _ _ _ _) (z0b hb hl)))))))))))
   ·exact z0b rfl (z0b (z0z _) (z0b (decide_eq_true hlt) (z0b (decide_eq_true (z02 rs).symm) (z0b (decide_eq_true (z03 (z02 rs) hlt)) (z0b (z4s x) (z0b (decide_eq_true (by omega)) (z0b (decide_eq_true (by omega)) (z0b hlen (z0b (decide_eq_true hT) (z0b (e15 _ _ _ _ _ _ _) (z0b hb hl)))))))))))
theorem v7m:∀ (d i j:Nat),rs.length - i = d→i ≤ rs.length→j ≤ 1000→ds.drop j = (((List.range rs.length).drop i).filter fun i=>!o.getD i false)→z3j rs o ((List.range rs.length).drop i) = z3j rs o (List.range rs.length) →
  z0l Tryz.X15 (cd PP 15 [1,1,1,1,1,1,1,1,0,1,0,0]) ([X,.ptr 0 0,X,X,I 0,.vs (encD ds) ds.length td,X,.ptr 1 0,X,.ptr 2 0,I j,X,X,X,X,X,X,X,X,X,X,X,X,X,X,X,X,X,X,X,X,X,X,X,X,X,X,X,X,X,X,X,X,X,X,X,X,I rs.length,I i]++List.replicate 35 X) ⟨[some (.cells [.vs (z0c rs) rs.length .none] 25),some (.cells [.vs (z0c (z3j rs o (List.range rs.length))) (z3j rs o (List.range rs.length)).length .none] 25),some (.cells [.vs [] 0 .zero] 25)],[],[]⟩ (z0d 0 (z0i Tryz.X15 (cd PP 15 [1,1,1,1,1,1,1,1,1]) (z0f Tryz.X15 15 fun r'=>r' = rB true))):=by
 have hn:=hrs.2.1
 intro d
 induction d with
 | zero =>
  intro i j hd hi hj hdr hk
  have hi':i = rs.length:=by omega
  subst hi'
  rw [List.drop_of_length_le (by simp),show z3j rs o [] = [] from rfl] at hk
  refine z0n (C:=Tryz.X15) o15 k15 ?_
  rw [w8y]
  exact z0p (decide_eq_false (by omega)) ⟨trivial,⟨⟨_,rfl,rfl,x9r hrs o⟩,by rw [← hk]; rfl,by rw [← hk]; rfl⟩,rfl⟩
 | succ d ih =>
  intro i j hd hi hj hdr hk
  have hlt:i < rs.length:=by omega
  obtain ⟨x,hx⟩:∃ x,rs[i]? = some x:=⟨_,List.getElem?_eq_getElem hlt⟩
  rw [z5e hlt] at hk
  obtain ⟨s1,s2⟩:=w5h hlt hdr
  refine z0n (C:=Tryz.X15) o15 k15 ?_
  rw [w8y,Int.toNat_natCast i,z4u hx,x1b,wA1 (a:=i) (by omega),wA1 (a:=j) (by omega)]
  refine z0b (decide_eq_true (by omega)) ?_
  cases ho:o.getD i false with
  | false =>
   obtain ⟨h1,h2,h3⟩:=s1 ho
   rw [y6k _ ho] at hk
   refine z0b (decide_eq_true (by omega)) (z0b (z0z _) (z0b (row_in h1) (z0b (decide_eq_true (by rw [z4v]; omega)) (z0b (z86 h1) (z0b (y1c h1) (z0b ?_ ?_))))))
   ·rw [y1d h1,h2]; simp
   ·exact z0b (e15 _ _ _ _ _ _ _) (z0b (b15 _ _ [] _) (ih (i + 1) (j + 1) (by omega) (by omega) (by omega) h3 hk))
  | true =>
   obtain ⟨h1,h2⟩:=s2 ho
   rw [y6j _ ho hx] at hk
   have hb:=b15 rs (z3j rs o (List.range rs.length)) [x] (.own 0)
   have hl:=v7n hrs (o:=o) hds td d (i + 1) j [x] 0 [(1,8,73)] (by omega) (by omega) hj (by simp) rfl h1 hk
   rw [show z0c [x] = z1d x by simp [z0c]] at hb hl
   refine z0h (fun hjn=>?_) (fun hjn=>?_)
   ·have hjn:j < ds.length:=by have:=of_decide_eq_true hjn; omega
    refine z0b (z0z _) (z0b (row_in hjn) (z0b (decide_eq_true (by rw [z4v]; omega)) (z0b (z86 hjn) (z0b (y1c hjn) (z0p ?_ ?_)))))
    ·rw [y1d hjn]
     have:=h2 hjn
     rw [beq_eq_false_iff_ne]; omega
    ·exact z0b rfl (z0b (z0z _) (z0b (decide_eq_true hlt) (z0b (decide_eq_true (z02 rs).symm) (z0b (decide_eq_true (z03 (z02 rs) hlt)) (z0b (z4s x) (z0b (e15 _ _ _ _ _ _ _) (z0b hb hl)))))))
   ·exact z0b rfl (z0b (z0z _) (z0b (decide_eq_true hlt) (z0b (decide_eq_true (z02 rs).symm) (z0b (decide_eq_true (z03 (z02 rs) hlt)) (z0b (z4s x) (z0b (e15 _ _ _ _ _ _ _) (z0b hb hl)))))))
end
theorem v7o {rs:List Rul} (hw:rs.length ≤ 1000) {e:Int} (he:e ≠ 0) (td:Tok):∀ (d i:Nat),rs.length - i = d→i ≤ rs.length →
  z0l Tryz.X15 (cd PP 15 [1,1,1,1,1,1,1,1,0,1,0,0]) ([X,.ptr 0 0,X,X,I e,.vs (encD []) 0 td,X,.ptr 1 0,X,.ptr 2 0,I 0,X,X,X,X,X,X,X,X,X,X,X,X,X,X,X,X,X,X,X,X,X,X,X,X,X,X,X,X,X,X,X,X,X,X,X,X,I rs.length,I i]++List.replicate 35 X) ⟨[some (.cells [.vs (z0c rs) rs.length .none] 25),some (.cells [.vs (z0c []) 0 .none] 25),some (.cells [.vs [] 0 .zero] 25)],[],[]⟩ (z0d 0 (z0i Tryz.X15 (cd PP 15 [1,1,1,1,1,1,1,1,1]) (z0f Tryz.X15 15 fun r'=>r' = rB true))):=by
 intro d
 induction d with
 | zero =>
  intro i hd hi
  have hi':i = rs.length:=by omega
  subst hi'
  refine z0n (C:=Tryz.X15) o15 k15 ?_
  rw [w8y]
  exact z0p (decide_eq_false (by omega)) ⟨trivial,⟨⟨[],rfl,rfl,by simp [z1h]⟩,rfl,rfl⟩,rfl⟩
 | succ d ih =>
  intro i hd hi
  refine z0n (C:=Tryz.X15) o15 k15 ?_
  rw [w8y,wA1 (a:=i) (by omega)]
  refine z0b (decide_eq_true (by omega)) (z0p (decide_eq_false (by simp)) (z0p (by simpa using he) (z0b (e15 [] td 0 rs.length _ _ _) (z0b (b15 rs [] [] _) (ih (i + 1) (by omega) (by omega))))))
theorem w7l (o:List Bool):(y54 o).length ≤ o.length:=by
 unfold y54
 exact Nat.le_trans (List.length_filter_le _ _) (by simp)
theorem v1z {rs:List Rul} (h:y5v 12 rs = true):rs.length ≤ 1000:=by
 unfold y5v at h
 rw [Bool.and_eq_true,decide_eq_true_eq] at h
 omega
theorem ct15:Ct Tryz.B.c0 15 RL1:=Ct.of_wp (l:=l15) (lm:=v5a) (tp:=[]) (ct:=[]) (sm:=[(11,3)]) Tryz.bok c15 ⟨_,_,Tryz.func15,rfl⟩ fun args D r hR hD=>by
 unfold RL1 at hR
 split at hR <;> cases hR
 obtain ⟨rs,rfl,rfl,hw⟩:=hD
 refine ⟨by simp [noHL,noH,z0t],?_⟩
 rw [show z0e 0 [AV.agg [.vs (z0c rs) rs.length .none]] = [AV.agg [.vs (z0c rs) rs.length .none]] by simp [z0e,scrub,z1f,Tok.scrub]]
 show wpF Tryz.X15 15 _ _
 rw [v15,z0j z0u,z0j z0u,z0j z0u]
 have hD:(z4b rs).1.length ≤ 1000∧(z4b rs).2 = (z5q rs).2:=by
  unfold z4b z5q
  by_cases h:chk rs = 0
  ·rw [if_pos h,if_pos h]
   have h1:=(z8x hw h).1.2.1
   have h2:=w7l (z2l rs)
   rw [z9y] at h2
   refine ⟨?_,rfl⟩
   show (y78 rs).length ≤ 1000
   rw [x1s]; omega
  ·rw [if_neg h,if_neg h]; simp
 refine ⟨⟨rs,rfl,rfl,hw,by omega,by omega⟩,z0h (fun h=>⟨trivial,rfl⟩) (fun hf=>⟨⟨rs,rfl,rfl,hw⟩,⟨rs,rfl,rfl,hw⟩,⟨rs,rfl,rfl,hw⟩,z0p (nne _) (z0p (by rw [hD.2]; exact nne _) ⟨⟨⟨_,rfl,rfl,hD.1⟩,⟨_,rfl,rfl,hD.1⟩⟩,?_⟩)⟩)⟩
 rw [z0j z2n,z0j z2n]
 refine z0p (by simp) ?_
 by_cases h:chk rs = 0
 ·obtain ⟨hrs,_⟩:=z8x hw h
  have h2:=w7l (z2l rs)
  rw [z9y] at h2
  have hn:=hrs.2.1
  rw [show z4b rs = (y54 (z2l rs),0) by unfold z4b; rw [if_pos h,x1s],show z5q rs = (z9x rs,0) by unfold z5q; rw [if_pos h]]
  refine z0b (e15 _ _ _ _ _ _ _) (z0b (b15 rs (z9x rs) [] _) ?_)
  exact v7m hrs (o:=z2l rs) (ds:=y54 (z2l rs)) (by omega) _ rs.length 0 0 (by omega) (by omega) (by omega) (by unfold y54; rw [z9y]; rfl) rfl
 ·rw [show z4b rs = ([],chk rs) by unfold z4b; rw [if_neg h],show z5q rs = ([],chk rs) by unfold z5q; rw [if_neg h]]
  refine z0b (e15 [] _ 0 _ _ _ _) (z0b (b15 rs [] [] _) ?_)
  exact v7o (v1z (by simpa using hf)) h _ rs.length 0 (by omega) (by omega)
end Go.Proofs
set_option maxRecDepth 100000
set_option linter.unusedVariables false
-- elP Wit
namespace Go.Proofs
open Go Go.Ev
end Go.Proofs
set_option maxRecDepth 100000
set_option linter.unusedVariables false
namespace Go.Proofs
open Go Go.Ev
section
attribute [local irreducible] csL
section
variable {rs:List Rul} (hrs:z1j rs) (hsh:∀ x ∈ rs,shT x.t = true)
include hrs hsh
end
end
section
attribute [local irreducible] csL wpF z2b z2c
end
end Go.Proofs
