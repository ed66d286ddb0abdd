/- Contracts of functions of the program and of the reference. -/
import Derived.Test.YtljjkomdibkjpaaGreatDoorK10
set_option linter.unusedVariables false
set_option linter.unusedSimpArgs false
set_option maxRecDepth 100000
set_option linter.unusedVariables false
namespace Go.Proofs
open Go Go.Ev
def tkZ (l:List Nat):Tok:=if l = [] then .zero else .none
noncomputable def R34:Spc:=fun args=>match args with
 | [.vs a n _,.vs b m _]=>some ((∃ x,a = encD x∧n = x.length∧x.length ≤ 1000)∧∃ y,b = encD y∧m = y.length∧y.length ≤ 1000,rB (z0g encD (fun x=>z0g encD (fun y=>x == y) false b) false a))
 | _=>none
def w1h:List (Nat × List Nat):=[(4,[0,1,5]),(8,[])]
noncomputable def Tryz.X34:WCx:=Tryz.B.wcx [] w1h
noncomputable def dvR (l a b:List AV):Int × Int × Int:=on3 l a b (0,0,0) fun rs p q=>z62 (rkR rs) (thR rs p q) (thR rs q p) (List.range rs.length) (-1) (-1) 0
noncomputable def R83:Spc:=fun args=>match args with
 | [.agg [.vs l len .none],.agg a,.agg b]=>some ((∃ rs,l = z0c rs∧len = rs.length∧z1j rs)∧(∃ p,a = z0a p)∧∃ q,b = z0a q,.ret (.agg [U (z01 (dvR l a b).1 (dvR l a b).2.1),I (dvR l a b).1,I (dvR l a b).2.1,I (dvR l a b).2.2]))
 | _=>none
def w1b:List (Nat × List Nat):=[(3,[3,4,5,6,7,8]),(9,[3,4,5,6,7,8,9,10,11]),(11,[3,4,5,6,7,8,10,11]),(13,[3,4,5,6,7,8,11]),(15,[6,7])]
noncomputable def Tryz.X83:WCx:=Tryz.B.wcx [(82,R82)] w1b [] [9,11,13,15] [(3,5),(9,6),(11,5),(13,5),(15,5)]
theorem v34 (a b:List AV) (n m:Nat) (ta tb:Tok) (Q:CR→Prop):wpF Tryz.X34 34 [.vs a n ta,.vs b m tb] Q =
 (cIf ((↑n:Int) != (↑m:Int)) (Q (CR.ret (Bo false))) (z0l Tryz.X34 (cd Tryz.X34.P 34 [1,1,0,1,0,0]) ([AV.vs a n ta,AV.vs b m tb,X,X,X,I 0]++List.replicate 20 X) (St.mk [] [] []) (z0d 0 (z0i Tryz.X34 (cd Tryz.X34.P 34 [1,1,1]) (z0f Tryz.X34 34 Q))))):=by kernel_rfl
theorem w0g (a b:List AV) (n m:Nat) (ta tb:Tok) (i:Int) (Q:CR→Prop):wpC Tryz.X34 (cd PP 34 [1,1,0,1,0,0]) ([.vs a n ta,.vs b m tb,X,X,X,I i]++List.replicate 20 X) ⟨[],[],[]⟩ (z0r Tryz.X34 (cd PP 34 [1,1,0,1,0,0]) (z0d 0 (z0i Tryz.X34 (cd PP 34 [1,1,1]) (z0f Tryz.X34 34 Q)))) =
 (cIf (decide (i < (↑n:Int))) (cIf (decide ((0:Int) ≤ i)) (cIf (decide (i.toNat < n)) (cIf (decide (n * 1 = a.length)) (cIf (decide (0 < (List.drop (i.toNat * 1) a).length)) (cIf (z1g (AV.ofVal (Value.int IntKind.i64 (0:Int))) ((List.drop (i.toNat * 1) a).getD 0 X)) (cIf (decide ((0:Int) ≤ i)) (cIf (decide (i.toNat < m)) (cIf (decide (m * 1 = b.length)) (cIf (decide (0 < (List.drop (i.toNat * 1) b).length)) (cIf (z1g (AV.ofVal (Value.int IntKind.i64 (0:Int))) ((List.drop (i.toNat * 1) b).getD 0 X)) (cIf (cI (List.drop (i.toNat * 1) a) 0 != cI (List.drop (i.toNat * 1) b) 0) (Q (CR.ret (Bo false))) (z0l Tryz.X34 (cd PP 34 [1,1,0,1,0,0]) ([AV.vs a n ta,AV.vs b m tb,X,X,X,I (IntKind.i64.wrap (i + (1:Int)))]++List.replicate 20 X) (St.mk [] [] []) (z0d 0 (z0i Tryz.X34 (cd PP 34 [1,1,1]) (z0f Tryz.X34 34 Q))))) False) False) False) False) False) False) False) False) False) False) (Q (CR.ret (Bo true)))):=by kernel_rfl
theorem v83 (l:List AV) (len:Nat) (p q:Prf) (Q:CR→Prop):wpF Tryz.X83 83 [.agg [.vs l len .none],.agg (z0a p),.agg (z0a q)] Q =
 (cIf ([some (HB.cells [AV.vs l len Tok.none] 25),some (HB.cells (z0a p) 40),some (HB.cells (z0a q) 40),some (HB.cells [U 0,I 0,I 0,I 0] 115),some (HB.cells [U 0,I (-1),I (-1),I 0] 115)].all (okBlk 5)) (z0l Tryz.X83 (cd Tryz.X83.P 83 [1,1,0,1,0,0]) ([X,X,X,AV.ptr 0 0,AV.ptr 1 0,AV.ptr 2 0,AV.ptr 3 0,AV.ptr 4 0,I 0]++List.replicate 84 X) (St.mk [some (HB.cells [AV.vs l len Tok.none] 25),some (HB.cells (z0a p) 40),some (HB.cells (z0a q) 40),some (HB.cells [U 0,I 0,I 0,I 0] 115),some (HB.cells [U 0,I (-1),I (-1),I 0] 115)] [] []) (z0d 0 (z0i Tryz.X83 (cd Tryz.X83.P 83 [1,1,1]) (z0f Tryz.X83 83 Q)))) False):=by kernel_rfl
theorem x98 (l:List AV) (len:Nat) (p q:Prf) (v w r i:Int) (Q:CR→Prop):wpC Tryz.X83 (cd PP 83 [1,1,0,1,0,0]) ([X,X,X,.ptr 0 0,.ptr 1 0,.ptr 2 0,.ptr 3 0,.ptr 4 0,I i]++List.replicate 84 X) ⟨[some (.cells [.vs l len .none] 25),some (.cells (z0a p) 40),some (.cells (z0a q) 40),some (.cells [U 0,I 0,I 0,I 0] 115),some (.cells [U 0,I v,I w,I r] 115)],[],[]⟩ (z0r Tryz.X83 (cd PP 83 [1,1,0,1,0,0]) (z0d 0 (z0i Tryz.X83 (cd PP 83 [1,1,1]) (z0f Tryz.X83 83 Q)))) =
 (cIf (decide (i < (↑len:Int))) (cIf (decide ((0:Int) ≤ i)) (cIf (decide (i.toNat < len)) (cIf (decide (len * 8 = l.length)) (cIf (decide (8 ≤ (List.drop (i.toNat * 8) l).length)) (cIf (like zR (el (List.drop (i.toNat * 8) l) 0 8)) (cIf (decide (cI (el (List.drop (i.toNat * 8) l) 0 8) 1 < r)) (cIf ([some (HB.cells [AV.vs l len Tok.none] 25),some (HB.cells (z0a p) 40),some (HB.cells (z0a q) 40),some (HB.cells [U 0,I 0,I 0,I 0] 115),some (HB.cells [U 0,I v,I w,I r] 115)].all (okBlk 5)) (z0l Tryz.X83 (cd PP 83 [1,1,0,1,0,0]) ([X,X,X,AV.ptr 0 0,AV.ptr 1 0,AV.ptr 2 0,AV.ptr 3 0,AV.ptr 4 0,I (IntKind.i64.wrap (i + (1:Int)))]++List.replicate 84 X) (St.mk [some (HB.cells [AV.vs l len Tok.none] 25),some (HB.cells (z0a p) 40),some (HB.cells (z0a q) 40),some (HB.cells [U 0,I 0,I 0,I 0] 115),some (HB.cells [U 0,I v,I w,I r] 115)] [] []) (z0d 0 (z0i Tryz.X83 (cd PP 83 [1,1,1]) (z0f Tryz.X83 83 Q)))) False) (((∃ (t:Tst),(z5k (el (List.drop (i.toNat * 8) l) 0 8)) = z0m t∧wfT t)∧(∃ (a:Prf),(z0a p) = z0a a)∧∃ (b:Prf),(z0a q) = z0a b)∧((∃ (t:Tst),(z5k (el (List.drop (i.toNat * 8) l) 0 8)) = z0m t∧wfT t)∧(∃ (a:Prf),(z0a q) = z0a a)∧∃ (b:Prf),(z0a p) = z0a b)∧cIf ([some (HB.cells [AV.vs l len Tok.none] 25),some (HB.cells (z0a p) 40),some (HB.cells (z0a q) 40),some (HB.cells [U 0,I 0,I 0,I 0] 115),some (HB.cells [U 0,I v,I w,I r] 115),some (HB.cells (elR (el (List.drop (i.toNat * 8) l) 0 8)) 73)].all (okBlk 6)) (z0k Tryz.X83 (cd PP 83 [1,1,0,1,0,0,1,0,0,1,1,1,1]) ([X,X,X,AV.ptr 0 0,AV.ptr 1 0,AV.ptr 2 0,AV.ptr 3 0,AV.ptr 4 0,I i,AV.ptr 5 0,AV.bool (z0g z0m (fun (t:Tst)=>z0g z0a (fun (a:Prf)=>z0g z0a (fun (b:Prf)=>hoT t a b) false (z0a q)) false (z0a p)) false (z5k (el (List.drop (i.toNat * 8) l) 0 8))),AV.bool (z0g z0m (fun (t:Tst)=>z0g z0a (fun (a:Prf)=>z0g z0a (fun (b:Prf)=>hoT t a b) false (z0a p)) false (z0a q)) false (z5k (el (List.drop (i.toNat * 8) l) 0 8)))]++List.replicate 81 X) (St.mk [some (HB.cells [AV.vs l len Tok.none] 25),some (HB.cells (z0a p) 40),some (HB.cells (z0a q) 40),some (HB.cells [U 0,I 0,I 0,I 0] 115),some (HB.cells [U 0,I v,I w,I r] 115),some (HB.cells (elR (el (List.drop (i.toNat * 8) l) 0 8)) 73)] [] []) (z0d 1 (z0i Tryz.X83 (cd PP 83 [1,1,0,1,0,0,1,1]) (z0r Tryz.X83 (cd PP 83 [1,1,0,1,0,0]) (z0d 0 (z0i Tryz.X83 (cd PP 83 [1,1,1]) (z0f Tryz.X83 83 Q))))))) False)) False) False) False) False) False) (cIf ([some (HB.cells [AV.vs l len Tok.none] 25),some (HB.cells (z0a p) 40),some (HB.cells (z0a q) 40),some (HB.cells [U 0,I 0,I 0,I 0] 115),some (HB.cells [U 0,I v,I w,I r] 115)].all (okBlk 5)) (z0k Tryz.X83 (cd PP 83 [1,1,1]) ([X,X,X,X,X,X,AV.ptr 3 0,AV.ptr 4 0]++List.replicate 85 X) (St.mk [some (HB.cells [AV.vs l len Tok.none] 25),some (HB.cells (z0a p) 40),some (HB.cells (z0a q) 40),some (HB.cells [U 0,I 0,I 0,I 0] 115),some (HB.cells [U 0,I v,I w,I r] 115)] [] []) (z0f Tryz.X83 83 Q)) False)):=by kernel_rfl
theorem w50 (l:List AV) (len:Nat) (p q:Prf) (x:Rul) (t b:Bool) (v w r i:Int) (Q:CR→Prop):wpC Tryz.X83 (cd PP 83 [1,1,0,1,0,0,1,0,0,1,1,1,1]) ([X,X,X,.ptr 0 0,.ptr 1 0,.ptr 2 0,.ptr 3 0,.ptr 4 0,I i,.ptr 5 0,Bo t,Bo b]++List.replicate 81 X) ⟨[some (.cells [.vs l len .none] 25),some (.cells (z0a p) 40),some (.cells (z0a q) 40),some (.cells [U 0,I 0,I 0,I 0] 115),some (.cells [U 0,I v,I w,I r] 115),some (.cells (z1d x) 73)],[],[]⟩ (z0d 1 (z0i Tryz.X83 (cd PP 83 [1,1,0,1,0,0,1,1]) (z0r Tryz.X83 (cd PP 83 [1,1,0,1,0,0]) (z0d 0 (z0i Tryz.X83 (cd PP 83 [1,1,1]) (z0f Tryz.X83 83 Q)))))) =
 (cIf t (cIf (decide (x.rank > r)) (cIf ([some (HB.cells [AV.vs l len Tok.none] 25),some (HB.cells (z0a p) 40),some (HB.cells (z0a q) 40),some (HB.cells [U 0,I 0,I 0,I 0] 115),some (HB.cells [U 0,I (-1),I (-1),I x.rank] 115)].all (okBlk 5)) (z0k Tryz.X83 (cd PP 83 [1,1,0,1,0,0,1,0,0,1,1,1,1,1]) ([X,X,X,AV.ptr 0 0,AV.ptr 1 0,AV.ptr 2 0,AV.ptr 3 0,AV.ptr 4 0,I i,X,Bo t,Bo b]++List.replicate 81 X) (St.mk [some (HB.cells [AV.vs l len Tok.none] 25),some (HB.cells (z0a p) 40),some (HB.cells (z0a q) 40),some (HB.cells [U 0,I 0,I 0,I 0] 115),some (HB.cells [U 0,I (-1),I (-1),I x.rank] 115)] [] []) (z0d 1 (z0i Tryz.X83 (cd PP 83 [1,1,0,1,0,0,1,1]) (z0r Tryz.X83 (cd PP 83 [1,1,0,1,0,0]) (z0d 0 (z0i Tryz.X83 (cd PP 83 [1,1,1]) (z0f Tryz.X83 83 Q))))))) False) (cIf ([some (HB.cells [AV.vs l len Tok.none] 25),some (HB.cells (z0a p) 40),some (HB.cells (z0a q) 40),some (HB.cells [U 0,I 0,I 0,I 0] 115),some (HB.cells [U 0,I v,I w,I r] 115)].all (okBlk 5)) (z0k Tryz.X83 (cd PP 83 [1,1,0,1,0,0,1,0,0,1,1,1,1,1]) ([X,X,X,AV.ptr 0 0,AV.ptr 1 0,AV.ptr 2 0,AV.ptr 3 0,AV.ptr 4 0,I i,X,Bo t,Bo b]++List.replicate 81 X) (St.mk [some (HB.cells [AV.vs l len Tok.none] 25),some (HB.cells (z0a p) 40),some (HB.cells (z0a q) 40),some (HB.cells [U 0,I 0,I 0,I 0] 115),some (HB.cells [U 0,I v,I w,I r] 115)] [] []) (z0d 1 (z0i Tryz.X83 (cd PP 83 [1,1,0,1,0,0,1,1]) (z0r Tryz.X83 (cd PP 83 [1,1,0,1,0,0]) (z0d 0 (z0i Tryz.X83 (cd PP 83 [1,1,1]) (z0f Tryz.X83 83 Q))))))) False)) (cIf b (cIf (decide (x.rank > r)) (cIf ([some (HB.cells [AV.vs l len Tok.none] 25),some (HB.cells (z0a p) 40),some (HB.cells (z0a q) 40),some (HB.cells [U 0,I 0,I 0,I 0] 115),some (HB.cells [U 0,I (-1),I (-1),I x.rank] 115)].all (okBlk 5)) (z0k Tryz.X83 (cd PP 83 [1,1,0,1,0,0,1,0,0,1,1,1,1,1]) ([X,X,X,AV.ptr 0 0,AV.ptr 1 0,AV.ptr 2 0,AV.ptr 3 0,AV.ptr 4 0,I i,X,Bo t,Bo b]++List.replicate 81 X) (St.mk [some (HB.cells [AV.vs l len Tok.none] 25),some (HB.cells (z0a p) 40),some (HB.cells (z0a q) 40),some (HB.cells [U 0,I 0,I 0,I 0] 115),some (HB.cells [U 0,I (-1),I (-1),I x.rank] 115)] [] []) (z0d 1 (z0i Tryz.X83 (cd PP 83 [1,1,0,1,0,0,1,1]) (z0r Tryz.X83 (cd PP 83 [1,1,0,1,0,0]) (z0d 0 (z0i Tryz.X83 (cd PP 83 [1,1,1]) (z0f Tryz.X83 83 Q))))))) False) (cIf ([some (HB.cells [AV.vs l len Tok.none] 25),some (HB.cells (z0a p) 40),some (HB.cells (z0a q) 40),some (HB.cells [U 0,I 0,I 0,I 0] 115),some (HB.cells [U 0,I v,I w,I r] 115)].all (okBlk 5)) (z0k Tryz.X83 (cd PP 83 [1,1,0,1,0,0,1,0,0,1,1,1,1,1]) ([X,X,X,AV.ptr 0 0,AV.ptr 1 0,AV.ptr 2 0,AV.ptr 3 0,AV.ptr 4 0,I i,X,Bo t,Bo b]++List.replicate 81 X) (St.mk [some (HB.cells [AV.vs l len Tok.none] 25),some (HB.cells (z0a p) 40),some (HB.cells (z0a q) 40),some (HB.cells [U 0,I 0,I 0,I 0] 115),some (HB.cells [U 0,I v,I w,I r] 115)] [] []) (z0d 1 (z0i Tryz.X83 (cd PP 83 [1,1,0,1,0,0,1,1]) (z0r Tryz.X83 (cd PP 83 [1,1,0,1,0,0]) (z0d 0 (z0i Tryz.X83 (cd PP 83 [1,1,1]) (z0f Tryz.X83 83 Q))))))) False)) (cIf ([some (HB.cells [AV.vs l len Tok.none] 25),some (HB.cells (z0a p) 40),some (HB.cells (z0a q) 40),some (HB.cells [U 0,I 0,I 0,I 0] 115),some (HB.cells [U 0,I v,I w,I r] 115)].all (okBlk 5)) (z0k Tryz.X83 (cd PP 83 [1,1,0,1,0,0,1,0,0,1,1,1,1,1]) ([X,X,X,AV.ptr 0 0,AV.ptr 1 0,AV.ptr 2 0,AV.ptr 3 0,AV.ptr 4 0,I i,X,Bo t,Bo b]++List.replicate 81 X) (St.mk [some (HB.cells [AV.vs l len Tok.none] 25),some (HB.cells (z0a p) 40),some (HB.cells (z0a q) 40),some (HB.cells [U 0,I 0,I 0,I 0] 115),some (HB.cells [U 0,I v,I w,I r] 115)] [] []) (z0d 1 (z0i Tryz.X83 (cd PP 83 [1,1,0,1,0,0,1,1]) (z0r Tryz.X83 (cd PP 83 [1,1,0,1,0,0]) (z0d 0 (z0i Tryz.X83 (cd PP 83 [1,1,1]) (z0f Tryz.X83 83 Q))))))) False))):=by kernel_rfl
theorem w5z (l:List AV) (len:Nat) (p q:Prf) (t b:Bool) (v w r i:Int) (Q:CR→Prop):wpC Tryz.X83 (cd PP 83 [1,1,0,1,0,0,1,0,0,1,1,1,1,1]) ([X,X,X,.ptr 0 0,.ptr 1 0,.ptr 2 0,.ptr 3 0,.ptr 4 0,I i,X,Bo t,Bo b]++List.replicate 81 X) ⟨[some (.cells [.vs l len .none] 25),some (.cells (z0a p) 40),some (.cells (z0a q) 40),some (.cells [U 0,I 0,I 0,I 0] 115),some (.cells [U 0,I v,I w,I r] 115)],[],[]⟩ (z0d 1 (z0i Tryz.X83 (cd PP 83 [1,1,0,1,0,0,1,1]) (z0r Tryz.X83 (cd PP 83 [1,1,0,1,0,0]) (z0d 0 (z0i Tryz.X83 (cd PP 83 [1,1,1]) (z0f Tryz.X83 83 Q)))))) =
 (cIf t (cIf (decide (v < (0:Int))) (cIf ([some (HB.cells [AV.vs l len Tok.none] 25),some (HB.cells (z0a p) 40),some (HB.cells (z0a q) 40),some (HB.cells [U 0,I 0,I 0,I 0] 115),some (HB.cells [U 0,I i,I w,I r] 115)].all (okBlk 5)) (z0k Tryz.X83 (cd PP 83 [1,1,0,1,0,0,1,0,0,1,1,1,1,1,1]) ([X,X,X,AV.ptr 0 0,AV.ptr 1 0,AV.ptr 2 0,AV.ptr 3 0,AV.ptr 4 0,I i,X,X,Bo b]++List.replicate 81 X) (St.mk [some (HB.cells [AV.vs l len Tok.none] 25),some (HB.cells (z0a p) 40),some (HB.cells (z0a q) 40),some (HB.cells [U 0,I 0,I 0,I 0] 115),some (HB.cells [U 0,I i,I w,I r] 115)] [] []) (z0d 1 (z0i Tryz.X83 (cd PP 83 [1,1,0,1,0,0,1,1]) (z0r Tryz.X83 (cd PP 83 [1,1,0,1,0,0]) (z0d 0 (z0i Tryz.X83 (cd PP 83 [1,1,1]) (z0f Tryz.X83 83 Q))))))) False) (cIf ([some (HB.cells [AV.vs l len Tok.none] 25),some (HB.cells (z0a p) 40),some (HB.cells (z0a q) 40),some (HB.cells [U 0,I 0,I 0,I 0] 115),some (HB.cells [U 0,I v,I w,I r] 115)].all (okBlk 5)) (z0k Tryz.X83 (cd PP 83 [1,1,0,1,0,0,1,0,0,1,1,1,1,1,1]) ([X,X,X,AV.ptr 0 0,AV.ptr 1 0,AV.ptr 2 0,AV.ptr 3 0,AV.ptr 4 0,I i,X,X,Bo b]++List.replicate 81 X) (St.mk [some (HB.cells [AV.vs l len Tok.none] 25),some (HB.cells (z0a p) 40),some (HB.cells (z0a q) 40),some (HB.cells [U 0,I 0,I 0,I 0] 115),some (HB.cells [U 0,I v,I w,I r] 115)] [] []) (z0d 1 (z0i Tryz.X83 (cd PP 83 [1,1,0,1,0,0,1,1]) (z0r Tryz.X83 (cd PP 83 [1,1,0,1,0,0]) (z0d 0 (z0i Tryz.X83 (cd PP 83 [1,1,1]) (z0f Tryz.X83 83 Q))))))) False)) (cIf ([some (HB.cells [AV.vs l len Tok.none] 25),some (HB.cells (z0a p) 40),some (HB.cells (z0a q) 40),some (HB.cells [U 0,I 0,I 0,I 0] 115),some (HB.cells [U 0,I v,I w,I r] 115)].all (okBlk 5)) (z0k Tryz.X83 (cd PP 83 [1,1,0,1,0,0,1,0,0,1,1,1,1,1,1]) ([X,X,X,AV.ptr 0 0,AV.ptr 1 0,AV.ptr 2 0,AV.ptr 3 0,AV.ptr 4 0,I i,X,X,Bo b]++List.replicate 81 X) (St.mk [some (HB.cells [AV.vs l len Tok.none] 25),some (HB.cells (z0a p) 40),some (HB.cells (z0a q) 40),some (HB.cells [U 0,I 0,I 0,I 0] 115),some (HB.cells [U 0,I v,I w,I r] 115)] [] []) (z0d 1 (z0i Tryz.X83 (cd PP 83 [1,1,0,1,0,0,1,1]) (z0r Tryz.X83 (cd PP 83 [1,1,0,1,0,0]) (z0d 0 (z0i Tryz.X83 (cd PP 83 [1,1,1]) (z0f Tryz.X83 83 Q))))))) False)):=by kernel_rfl
theorem w5y (l:List AV) (len:Nat) (p q:Prf) (b:Bool) (v w r i:Int) (Q:CR→Prop):wpC Tryz.X83 (cd PP 83 [1,1,0,1,0,0,1,0,0,1,1,1,1,1,1]) ([X,X,X,.ptr 0 0,.ptr 1 0,.ptr 2 0,.ptr 3 0,.ptr 4 0,I i,X,X,Bo b]++List.replicate 81 X) ⟨[some (.cells [.vs l len .none] 25),some (.cells (z0a p) 40),some (.cells (z0a q) 40),some (.cells [U 0,I 0,I 0,I 0] 115),some (.cells [U 0,I v,I w,I r] 115)],[],[]⟩ (z0d 1 (z0i Tryz.X83 (cd PP 83 [1,1,0,1,0,0,1,1]) (z0r Tryz.X83 (cd PP 83 [1,1,0,1,0,0]) (z0d 0 (z0i Tryz.X83 (cd PP 83 [1,1,1]) (z0f Tryz.X83 83 Q)))))) =
 (cIf b (cIf (decide (w < (0:Int))) (cIf ([some (HB.cells [AV.vs l len Tok.none] 25),some (HB.cells (z0a p) 40),some (HB.cells (z0a q) 40),some (HB.cells [U 0,I 0,I 0,I 0] 115),some (HB.cells [U 0,I v,I i,I r] 115)].all (okBlk 5)) (z0l Tryz.X83 (cd PP 83 [1,1,0,1,0,0]) ([X,X,X,AV.ptr 0 0,AV.ptr 1 0,AV.ptr 2 0,AV.ptr 3 0,AV.ptr 4 0,I (IntKind.i64.wrap (i + (1:Int)))]++List.replicate 84 X) (St.mk [some (HB.cells [AV.vs l len Tok.none] 25),some (HB.cells (z0a p) 40),some (HB.cells (z0a q) 40),some (HB.cells [U 0,I 0,I 0,I 0] 115),some (HB.cells [U 0,I v,I i,I r] 115)] [] []) (z0d 0 (z0i Tryz.X83 (cd PP 83 [1,1,1]) (z0f Tryz.X83 83 Q)))) False) (cIf ([some (HB.cells [AV.vs l len Tok.none] 25),some (HB.cells (z0a p) 40),some (HB.cells (z0a q) 40),some (HB.cells [U 0,I 0,I 0,I 0] 115),some (HB.cells [U 0,I v,I w,I r] 115)].all (okBlk 5)) (z0l Tryz.X83 (cd PP 83 [1,1,0,1,0,0]) ([X,X,X,AV.ptr 0 0,AV.ptr 1 0,AV.ptr 2 0,AV.ptr 3 0,AV.ptr 4 0,I (IntKind.i64.wrap (i + (1:Int)))]++List.replicate 84 X) (St.mk [some (HB.cells [AV.vs l len Tok.none] 25),some (HB.cells (z0a p) 40),some (HB.cells (z0a q) 40),some (HB.cells [U 0,I 0,I 0,I 0] 115),some (HB.cells [U 0,I v,I w,I r] 115)] [] []) (z0d 0 (z0i Tryz.X83 (cd PP 83 [1,1,1]) (z0f Tryz.X83 83 Q)))) False)) (cIf ([some (HB.cells [AV.vs l len Tok.none] 25),some (HB.cells (z0a p) 40),some (HB.cells (z0a q) 40),some (HB.cells [U 0,I 0,I 0,I 0] 115),some (HB.cells [U 0,I v,I w,I r] 115)].all (okBlk 5)) (z0l Tryz.X83 (cd PP 83 [1,1,0,1,0,0]) ([X,X,X,AV.ptr 0 0,AV.ptr 1 0,AV.ptr 2 0,AV.ptr 3 0,AV.ptr 4 0,I (IntKind.i64.wrap (i + (1:Int)))]++List.replicate 84 X) (St.mk [some (HB.cells [AV.vs l len Tok.none] 25),some (HB.cells (z0a p) 40),some (HB.cells (z0a q) 40),some (HB.cells [U 0,I 0,I 0,I 0] 115),some (HB.cells [U 0,I v,I w,I r] 115)] [] []) (z0d 0 (z0i Tryz.X83 (cd PP 83 [1,1,1]) (z0f Tryz.X83 83 Q)))) False)):=by kernel_rfl
theorem w5x (l:List AV) (len:Nat) (p q:Prf) (v w r:Int) (Q:CR→Prop):wpC Tryz.X83 (cd PP 83 [1,1,1]) ([X,X,X,X,X,X,.ptr 3 0,.ptr 4 0]++List.replicate 85 X) ⟨[some (.cells [.vs l len .none] 25),some (.cells (z0a p) 40),some (.cells (z0a q) 40),some (.cells [U 0,I 0,I 0,I 0] 115),some (.cells [U 0,I v,I w,I r] 115)],[],[]⟩ (z0f Tryz.X83 83 Q) =
 (cIf (decide (v ≥ (0:Int))) (cIf (decide (w ≥ (0:Int))) (Q (CR.ret (AV.agg [U 3,I v,I w,I r]))) (Q (CR.ret (AV.agg [U 1,I v,I w,I r])))) (cIf (decide (w ≥ (0:Int))) (Q (CR.ret (AV.agg [U 2,I v,I w,I r]))) (Q (CR.ret (AV.agg [U 0,I v,I w,I r]))))):=by kernel_rfl
end Go.Proofs
set_option maxRecDepth 100000
set_option linter.unusedVariables false
namespace Go.Proofs
open Go Go.Ev
theorem x3x {x y:List Nat} (ta tb:Tok) (hxy:x.length = y.length) (hx:x.length ≤ 1000) {Q:CR→Prop}:∀ (d i:Nat),x.length - i = d→i ≤ x.length→Q (.ret (Bo (x.drop i == y.drop i))) →
  z0l Tryz.X34 (cd PP 34 [1,1,0,1,0,0]) ([.vs (encD x) x.length ta,.vs (encD y) y.length tb,X,X,X,I i]++List.replicate 20 X) ⟨[],[],[]⟩ (z0d 0 (z0i Tryz.X34 (cd PP 34 [1,1,1]) (z0f Tryz.X34 34 Q))):=by
 intro d
 induction d with
 | zero =>
  intro i hd hi hQ
  have hi':i = x.length:=by omega
  subst hi'
  rw [List.drop_length,hxy,List.drop_length] at hQ
  refine z0n (C:=Tryz.X34) (z0y Tryz.bok (Cts.nil _)) (z1e Tryz.bok (Cts.nil _)) ?_
  rw [w0g]
  exact z0p (decide_eq_false (by omega)) hQ
 | succ d ih =>
  intro i hd hi hQ
  have h1:i < x.length:=by omega
  have h2:i < y.length:=by omega
  obtain ⟨a,ha,hda⟩:=z1p h1
  obtain ⟨b,hb,hdb⟩:=z1p h2
  rw [hda,hdb] at hQ
  have ga:gN x i = a:=by simp [gN,List.getD_eq_getElem?_getD,ha]
  have gb:gN y i = b:=by simp [gN,List.getD_eq_getElem?_getD,hb]
  refine z0n (C:=Tryz.X34) (z0y Tryz.bok (Cts.nil _)) (z1e Tryz.bok (Cts.nil _)) ?_
  rw [w0g,wA1 (a:=i) (by omega),y1d h1,y1d h2,ga,gb]
  refine z0b (decide_eq_true (by omega)) (z0b (z0z _) (z0b (row_in h1) (z0b (decide_eq_true (by rw [z4v]; omega)) (z0b (z86 h1) (z0b (y1c h1) (z0b (z0z _) (z0b (row_in h2) (z0b (decide_eq_true (by rw [z4v]; omega)) (z0b (z86 h2) (z0b (y1c h2) ?_))))))))))
  refine z0h (fun h=>?_) (fun h=>?_)
  ·have:(a :: x.drop (i + 1) == b :: y.drop (i + 1)) = false:=by
    have hn:a ≠ b:=fun e=>by subst e; simp at h
    simp [hn]
   rw [this] at hQ
   exact hQ
  ·have hn:a = b:=by have h':(a:Int) = b:=(by simpa using h); omega
   refine ih (i + 1) (by omega) (by omega) ?_
   subst hn
   simpa using hQ
theorem w78:Ct Tryz.B.c0 34 R34:=Ct.of_wp (l:=[]) (lm:=w1h) Tryz.bok (Cts.nil _) ⟨_,_,Tryz.func34,rfl⟩ fun args D r hR hD=>by
 unfold R34 at hR
 split at hR <;> cases hR
 rename_i _ _ ta _ _ tb
 obtain ⟨⟨x,rfl,rfl,hx⟩,y,rfl,rfl,hy⟩:=hD
 refine ⟨by simp [noHL,noH,z1t],?_⟩
 rw [show z0e 0 [AV.vs (encD x) x.length ta,AV.vs (encD y) y.length tb] = [AV.vs (encD x) x.length (ta.scrub 0),AV.vs (encD y) y.length (tb.scrub 0)] by simp [z0e,scrub,z2x],z0j z2n,z0j z2n]
 show wpF Tryz.X34 34 _ _
 rw [v34]
 refine z0h (fun h=>?_) (fun h=>?_)
 ·have hn:x ≠ y:=fun e=>by subst e; simp at h
  rw [show (x == y) = false by simpa using hn]
 ·have hn:x.length = y.length:=by have h':(x.length:Int) = y.length:=(by simpa using h); omega
  exact x3x _ _ hn hx x.length 0 (by omega) (by omega) rfl
theorem z5e {n i:Nat} (h:i < n):(List.range n).drop i = i :: (List.range n).drop (i + 1):=by
 obtain ⟨a,ha,hd⟩:=z1p (l:=List.range n) (i:=i) (by simpa using h)
 rw [List.getElem?_range h] at ha
 rw [hd,← Option.some.inj ha]
theorem x9q (C:Cx) (hs:List (Option HB)) (acc:List Nat) (n k:Nat) (Q:CR→Prop) (hQ:Q (.ret (.tup [.vs (encD acc) n .none,I 0]))):z3b (pub C hs 0 (.tup [.vs (encD acc) n (.own k),I 0])) (fun r'=>Q (.ret (scrub 0 r'))):=by
 refine y05 (v:=.tup [.vs (encD acc) n (.own k),I 0]) ?_ ?_
 ·simp [pub,z8q,noH,z1t]
 ·show Q (.ret (.tup [.vs (z0e 0 (encD acc)) n .none,I 0]))
  rw [z2x]
  exact hQ
theorem y77 (l:List Nat) (i:Nat):encD l++[I (i:Int)] = encD (l++[i]):=by simp [encD]
theorem y80 {α:Type} {T:List α} {k:Nat} {x:α} (y z:α) (h:T[k]? = some x):(T++[y])[k]? = some x∧((T++[y]).set k z)[k]? = some z:=by
 have hk:=(List.getElem?_eq_some_iff.1 h).1
 refine ⟨by rw [List.getElem?_append_left hk]; exact h,?_⟩
 rw [List.getElem?_set_self (by simp; omega)]
theorem hoE (t:Tst) (p q:Prf):z0g z0m (fun t=>z0g z0a (fun a=>z0g z0a (fun b=>hoT t a b) false (z0a q)) false (z0a p)) false (z0m t) = hoT t p q:=by
 rw [z0j (fun _ _=>z1a _ _),z0j z0w,z0j z0w]
theorem y73 (a:Nat) (l:List Nat):tkZ (a :: l) = .none:=rfl
section
variable {rs:List Rul} (hrs:z1j rs) (hsh:∀ x ∈ rs,shT x.t = true) {p q:Prf} {Q:CR→Prop}
include hrs hsh
end
section
variable {rs:List Rul} (hrs:z1j rs) {p q:Prf} {Q:CR→Prop}
theorem x7z {i:Nat} (h:i < rs.length):5 ≤ (List.drop 3 (List.drop (i * 8) (z0c rs))).length:=by
 have:=z03 (z02 rs) h
 rw [List.length_drop]
 omega
theorem a32 (x:Rul) (p q:Prf) (n:Nat):noHL n ([]++[AV.agg (z0m x.t),.agg (z0a p),.agg (z0a q)]++[]) = true:=by simp [noHL,noH,z1k,z04]
include hrs
end
theorem c83:Cts Tryz.B [(82,R82)]:=(Cts.nil _).cons w1s
abbrev y7d (rs:List Rul) (p q:Prf) (v w r:Int):List (Option HB):=[some (.cells [.vs (z0c rs) rs.length .none] 25),some (.cells (z0a p) 40),some (.cells (z0a q) 40),some (.cells [U 0,I 0,I 0,I 0] 115),some (.cells [U 0,I v,I w,I r] 115)]
def y4o (x:Int × Int × Int):CR:=.ret (.agg [U (z01 x.1 x.2.1),I x.1,I x.2.1,I x.2.2])
section
variable {rs:List Rul} (hrs:z1j rs) {p q:Prf} {Q:CR→Prop}
theorem z4l (rs:List Rul) (p q:Prf) (v w r:Int):(y7d rs p q v w r).all (okBlk 5) = true:=by
 simp [okBlk,noHB,noHL,noH,z0t,z04]
theorem x6f (rs:List Rul) (p q:Prf) (v w r:Int) (x:Rul):(y7d rs p q v w r++[some (HB.cells (z1d x) 73)]).all (okBlk 6) = true:=by
 simp [okBlk,noHB,noHL,noH,z0t,z04,z7c]
theorem w1o (v w r:Int) (hQ:Q (y4o (v,w,r))) :
  z0k Tryz.X83 (cd PP 83 [1,1,1]) ([X,X,X,X,X,X,.ptr 3 0,.ptr 4 0]++List.replicate 85 X) ⟨y7d rs p q v w r,[],[]⟩ (z0f Tryz.X83 83 Q):=by
 refine z3n (C:=Tryz.X83) (z0y Tryz.bok c83) (z1e Tryz.bok c83) ?_
 rw [w5x]
 unfold y4o z01 at hQ
 refine z0h (fun h=>z0h (fun h2=>?_) (fun h2=>?_)) (fun h=>z0h (fun h2=>?_) (fun h2=>?_))
 ·rw [if_pos ⟨of_decide_eq_true h,of_decide_eq_true h2⟩] at hQ; exact hQ
 ·have h:=of_decide_eq_true h
  have h2:=of_decide_eq_false h2
  rw [if_neg (fun x=>h2 x.2),if_pos h] at hQ; exact hQ
 ·have h:=of_decide_eq_false h
  have h2:=of_decide_eq_true h2
  rw [if_neg (fun x=>h x.1),if_neg h,if_pos h2] at hQ; exact hQ
 ·have h:=of_decide_eq_false h
  have h2:=of_decide_eq_false h2
  rw [if_neg (fun x=>h x.1),if_neg h,if_neg h2] at hQ; exact hQ
include hrs
theorem w09:∀ (d i:Nat) (v w r:Int),rs.length - i = d→i ≤ rs.length →
  Q (y4o (z62 (rkR rs) (thR rs p q) (thR rs q p) ((List.range rs.length).drop i) v w r)) →
  z0l Tryz.X83 (cd PP 83 [1,1,0,1,0,0]) ([X,X,X,.ptr 0 0,.ptr 1 0,.ptr 2 0,.ptr 3 0,.ptr 4 0,I i]++List.replicate 84 X) ⟨y7d rs p q v w r,[],[]⟩ (z0d 0 (z0i Tryz.X83 (cd PP 83 [1,1,1]) (z0f Tryz.X83 83 Q))):=by
 have hn:=hrs.2.1
 intro d
 induction d with
 | zero =>
  intro i v w r hd hi hQ
  have hi':i = rs.length:=by omega
  subst hi'
  rw [List.drop_of_length_le (by simp)] at hQ
  refine z0n (C:=Tryz.X83) (z0y Tryz.bok c83) (z1e Tryz.bok c83) ?_
  rw [x98]
  exact z0p (decide_eq_false (by omega)) (z0b (z4l rs p q v w r) (w1o v w r hQ))
 | succ d ih =>
  intro i v w r hd hi hQ
  have hlt:i < rs.length:=by omega
  obtain ⟨x,hx⟩:∃ x,rs[i]? = some x:=⟨_,List.getElem?_eq_getElem hlt⟩
  have hxm:=List.mem_of_getElem? hx
  have hrk:rkR rs i = x.rank:=by simp only [rkR,hx]
  have hth:thR rs p q i = hoT x.t p q:=by simp only [thR,hx]
  have hbk:thR rs q p i = hoT x.t q p:=by simp only [thR,hx]
  have cont:∀ v' w' r':Int,Q (y4o (z62 (rkR rs) (thR rs p q) (thR rs q p) ((List.range rs.length).drop (i + 1)) v' w' r'))→_:=fun v' w' r' h=>ih (i + 1) v' w' r' (by omega) (by omega) h
  rw [z5e hlt] at hQ
  simp only [z62] at hQ
  rw [hrk,hth,hbk] at hQ
  have three:∀ (b:Bool) (v' w' r':Int),Q (y4o (z62 (rkR rs) (thR rs p q) (thR rs q p) ((List.range rs.length).drop (i + 1)) v' (if (b && decide (w' < 0)) = true then (i:Int) else w') r')) →
    z0k Tryz.X83 (cd PP 83 [1,1,0,1,0,0,1,0,0,1,1,1,1,1,1]) ([X,X,X,.ptr 0 0,.ptr 1 0,.ptr 2 0,.ptr 3 0,.ptr 4 0,I i,X,X,Bo b]++List.replicate 81 X) ⟨y7d rs p q v' w' r',[],[]⟩ (z0d 1 (z0i Tryz.X83 (cd PP 83 [1,1,0,1,0,0,1,1]) (z0r Tryz.X83 (cd PP 83 [1,1,0,1,0,0]) (z0d 0 (z0i Tryz.X83 (cd PP 83 [1,1,1]) (z0f Tryz.X83 83 Q)))))):=by
   intro b v' w' r' h
   refine z3n (C:=Tryz.X83) (z0y Tryz.bok c83) (z1e Tryz.bok c83) ?_
   rw [w5y,wA1 (a:=i) (by omega)]
   refine z0h (fun h1=>z0h (fun h2=>?_) (fun h2=>?_)) (fun h1=>?_)
   ·rw [if_pos (by rw [h1,h2]; rfl)] at h
    exact z0b (z4l rs p q v' i r') (cont _ _ _ h)
   ·rw [if_neg (by rw [h1,h2]; simp)] at h
    exact z0b (z4l rs p q v' w' r') (cont _ _ _ h)
   ·rw [if_neg (by rw [h1]; simp)] at h
    exact z0b (z4l rs p q v' w' r') (cont _ _ _ h)
  have two:∀ (a b:Bool) (v' w' r':Int),Q (y4o (z62 (rkR rs) (thR rs p q) (thR rs q p) ((List.range rs.length).drop (i + 1)) (if (a && decide (v' < 0)) = true then (i:Int) else v') (if (b && decide (w' < 0)) = true then (i:Int) else w') r')) →
    z0k Tryz.X83 (cd PP 83 [1,1,0,1,0,0,1,0,0,1,1,1,1,1]) ([X,X,X,.ptr 0 0,.ptr 1 0,.ptr 2 0,.ptr 3 0,.ptr 4 0,I i,X,Bo a,Bo b]++List.replicate 81 X) ⟨y7d rs p q v' w' r',[],[]⟩ (z0d 1 (z0i Tryz.X83 (cd PP 83 [1,1,0,1,0,0,1,1]) (z0r Tryz.X83 (cd PP 83 [1,1,0,1,0,0]) (z0d 0 (z0i Tryz.X83 (cd PP 83 [1,1,1]) (z0f Tryz.X83 83 Q)))))):=by
   intro a b v' w' r' h
   refine z3n (C:=Tryz.X83) (z0y Tryz.bok c83) (z1e Tryz.bok c83) ?_
   rw [w5z]
   refine z0h (fun h1=>z0h (fun h2=>?_) (fun h2=>?_)) (fun h1=>?_)
   ·rw [if_pos (c:=(a && decide (v' < 0)) = true) (by rw [h1,h2]; rfl)] at h
    exact z0b (z4l rs p q i w' r') (three b _ _ _ h)
   ·rw [if_neg (c:=(a && decide (v' < 0)) = true) (by rw [h1,h2]; simp)] at h
    exact z0b (z4l rs p q v' w' r') (three b _ _ _ h)
   ·rw [if_neg (c:=(a && decide (v' < 0)) = true) (by rw [h1]; simp)] at h
    exact z0b (z4l rs p q v' w' r') (three b _ _ _ h)
  refine z0n (C:=Tryz.X83) (z0y Tryz.bok c83) (z1e Tryz.bok c83) ?_
  rw [x98,Int.toNat_natCast i,z4u hx,y2s,y1q,wA1 (a:=i) (by omega),hoE,hoE]
  refine z0b (decide_eq_true (by omega)) (z0b (z0z _) (z0b (decide_eq_true hlt) (z0b (decide_eq_true (z02 rs).symm) (z0b (decide_eq_true (z03 (z02 rs) hlt)) (z0b (z4s x) ?_)))))
  show cIf (decide (x.rank < r)) _ _
  refine z0h (fun hb=>?_) (fun hb=>?_)
  ·rw [if_pos (of_decide_eq_true hb)] at hQ
   exact z0b (z4l rs p q v w r) (cont _ _ _ hQ)
  ·rw [if_neg (of_decide_eq_false hb)] at hQ
   refine ⟨⟨⟨x.t,rfl,(hrs.1.2 x hxm).1⟩,⟨p,rfl⟩,q,rfl⟩,⟨⟨x.t,rfl,(hrs.1.2 x hxm).1⟩,⟨q,rfl⟩,p,rfl⟩,z0b (x6f rs p q v w r x) ?_⟩
   refine z3n (C:=Tryz.X83) (z0y Tryz.bok c83) (z1e Tryz.bok c83) ?_
   rw [w50]
   refine z0h (fun h1=>z0h (fun h2=>?_) (fun h2=>?_)) (fun h1=>z0h (fun h3=>z0h (fun h2=>?_) (fun h2=>?_)) (fun h3=>?_))
   ·rw [if_pos (c:=((hoT x.t p q || hoT x.t q p) && decide (x.rank > r)) = true) (by rw [h1,h2]; rfl)] at hQ
    exact z0b (z4l rs p q (-1) (-1) x.rank) (two _ _ _ _ _ hQ)
   ·rw [if_neg (c:=((hoT x.t p q || hoT x.t q p) && decide (x.rank > r)) = true) (by rw [h2]; simp)] at hQ
    exact z0b (z4l rs p q v w r) (two _ _ _ _ _ hQ)
   ·rw [if_pos (c:=((hoT x.t p q || hoT x.t q p) && decide (x.rank > r)) = true) (by rw [h3,h2]; simp)] at hQ
    exact z0b (z4l rs p q (-1) (-1) x.rank) (two _ _ _ _ _ hQ)
   ·rw [if_neg (c:=((hoT x.t p q || hoT x.t q p) && decide (x.rank > r)) = true) (by rw [h2]; simp)] at hQ
    exact z0b (z4l rs p q v w r) (two _ _ _ _ _ hQ)
   ·rw [if_neg (c:=((hoT x.t p q || hoT x.t q p) && decide (x.rank > r)) = true) (by rw [h1,h3]; simp)] at hQ
    exact z0b (z4l rs p q v w r) (two _ _ _ _ _ hQ)
end
theorem x4m (rs:List Rul) (p q:Prf):dvR (z0c rs) (z0a p) (z0a q) = z62 (rkR rs) (thR rs p q) (thR rs q p) (List.range rs.length) (-1) (-1) 0:=by
 unfold dvR on3
 rw [z0j z0u,z0j z0w,z0j z0w]
theorem w73:Ct Tryz.B.c0 83 R83:=Ct.of_wp (l:=[(82,R82)]) (lm:=w1b) (tp:=[]) (ct:=[9,11,13,15]) (sm:=[(3,5),(9,6),(11,5),(13,5),(15,5)]) Tryz.bok c83 ⟨_,_,Tryz.func83,rfl⟩ fun args D r hR hD=>by
 unfold R83 at hR
 split at hR <;> cases hR
 obtain ⟨⟨rs,rfl,rfl,hrs⟩,⟨p,rfl⟩,q,rfl⟩:=hD
 refine ⟨by simp [noHL,noH,z0t,z04],?_⟩
 rw [show z0e 0 [AV.agg [.vs (z0c rs) rs.length .none],.agg (z0a p),.agg (z0a q)] = [AV.agg [.vs (z0c rs) rs.length .none],.agg (z0a p),.agg (z0a q)] by simp [z0e,scrub,z1f,Tok.scrub,z2u],x4m]
 show wpF Tryz.X83 83 _ _
 rw [v83]
 exact z0b (z4l rs p q (-1) (-1) 0) (w09 hrs rs.length 0 (-1) (-1) 0 (by omega) (by omega) rfl)
end Go.Proofs
set_option maxRecDepth 100000
set_option linter.unusedVariables false
namespace Go.Proofs
open Go Go.Ev
theorem x13 (rs:List Rul):(z05 rs).Pairwise (fun j i=>rkR rs i < rkR rs j ∨ rkR rs j = rkR rs i∧j < i):=by
 have h:SO (fun j i=>rkR rs i < rkR rs j ∨ rkR rs j = rkR rs i∧j < i) (z05 rs) 0 rs.length :=
  x74 (ltR rs) (fun j i=>rkR rs i < rkR rs j ∨ rkR rs j = rkR rs i∧j < i) (fun h1 h2=>by omega) (fun h1 h2=>by omega)
   (fun {u v} h=>⟨fun h1=>by simp only [ltR,decide_eq_true_eq] at h1; omega,fun h1=>by simp only [ltR,decide_eq_false_iff_not] at h1; omega⟩)
   (by simp) (fun x hx=>w0x hx)
 rw [List.pairwise_iff_getElem]
 intro i j hi hj hij
 have:=h i j (Nat.zero_le _) hij (by rw [y0a] at hj; exact hj)
 simpa [gN,List.getD_eq_getElem?_getD,hi,hj] using this
end Go.Proofs
