/- Contracts of functions of the program and of the reference. -/
import Derived.Test.YtljjkomdibkjpaaGreatDoorK16
import Derived.Test.YtljjkomdibkjpaaGreatDoorK12
set_option linter.unusedVariables false
set_option linter.unusedSimpArgs false
set_option maxRecDepth 100000
set_option linter.unusedVariables false
-- elP C19
namespace Go.Proofs
open Go Go.Ev
def z4g (s:List Bool × Int) (i:Nat):List Bool × Int:=if s.1.getD i false = true then s else (s.1.set i true,s.2 - 1)
noncomputable def mkO (ob:List AV) (lf i:Int):List Bool × Int:=z0g z07 (fun o=>z4g (o,lf) i.toNat) ([],0) ob
def z2p (c:List AV):Prop:=(∀ n,noHL n c = true)∧z0e 0 c = c
noncomputable def R128:SpcP:=fun args hs=>match args,hs with
 | [.int .i64 i,.ptr 2 0,.ptr 4 0],[some (.cells c0 25),some (.cells ob 4),some (.cells [.row 1 0 m m'] 118),some (.cells c3 49),some (.cells [.int .i64 lf] 3),some (.cells c5 40),some (.cells c6 40)] =>
   some ((∃ o,ob = z07 o∧m = o.length∧m' = m∧0 ≤ i∧i < m∧m ≤ 1000∧0 ≤ lf∧lf ≤ 1000∧z2p c0∧z2p c3∧z2p c5∧z2p c6),.ret (.tup []),[some (.cells c0 25),some (.cells (z07 (mkO ob lf i).1) 4),some (.cells [.row 1 0 m m'] 118),some (.cells c3 49),some (.cells [I (mkO ob lf i).2] 3),some (.cells c5 40),some (.cells c6 40)])
 | _,_=>none
def z8e (rk:Nat→Int) (th bk:Nat→Bool):List Nat→Int→List Nat
 | [],_=>[]
 | i :: l,r=>if r > rk i then [] else if (!th i && !bk i) = true then z8e rk th bk l r else i :: z8e rk th bk l (rk i)
noncomputable def alE (l cs a b ob:List AV) (lf:Int):List Bool × Int:=on3 l a b ([],0) fun rs p q=>z0g encD (fun ord=>z0g z07 (fun o=>(z8e (rkR rs) (thR rs p q) (thR rs q p) ord 0).foldl z4g (o,lf)) ([],0) ob) ([],0) cs
def GoodA (m:Nat) (s:List Bool × Int):Prop:=s.1.length = m∧m ≤ 1000∧s.2 = (s.1.count false:Int)
noncomputable def R78e:SpcP:=fun args hs=>match args,hs with
 | [.agg [.vs l len .none],.vs cs n .none,.agg a,.agg b,.fn (.func 128) [] [.ptr 2 0,.ptr 4 0]],[some (.cells c0 25),some (.cells ob 4),some (.cells [.row 1 0 m m'] 118),some (.cells c3 49),some (.cells [.int .i64 lf] 3),some (.cells c5 40),some (.cells c6 40)] =>
   some (((∃ rs ord,l = z0c rs∧len = rs.length∧z1j rs∧(∀ x ∈ rs,shT x.t = true)∧cs = encD ord∧n = ord.length∧ord.length ≤ 24∧(∀ x ∈ ord,x < rs.length)∧m = rs.length)∧(∃ p,a = z0a p)∧∃ q,b = z0a q)∧(∃ o,ob = z07 o∧m' = m∧GoodA m (o,lf))∧z2p c0∧z2p c3∧z2p c5∧z2p c6,
    .ret (.agg [U (z01 (dvP l cs a b).1 (dvP l cs a b).2),I (dvP l cs a b).1,I (dvP l cs a b).2]),[some (.cells c0 25),some (.cells (z07 (alE l cs a b ob lf).1) 4),some (.cells [.row 1 0 m m'] 118),some (.cells c3 49),some (.cells [I (alE l cs a b ob lf).2] 3),some (.cells c5 40),some (.cells c6 40)])
 | _,_=>none
noncomputable def Tryz.X128:WCx:=Tryz.B.wcxP 7 [] [] [1]
noncomputable def Tryz.B128:Base:=Tryz.B.hk 128 (z3c 7 R128)
noncomputable def Tryz.X78e:WCx:=Tryz.B128.wcxP 7 [(80,R80)] x42 [] [9,13,15,18] [(4,12),(9,13),(13,12),(15,12),(18,12)]
theorem v0n (i:Int) (c0 c3 c5 c6 ob:List AV) (m:Nat) (lf:Int) (Q:CR→List (Option HB)→Prop):wpS Tryz.X128 128 [I i,.ptr 2 0,.ptr 4 0] [some (.cells c0 25),some (.cells ob 4),some (.cells [.row 1 0 m m] 118),some (.cells c3 49),some (.cells [I lf] 3),some (.cells c5 40),some (.cells c6 40)] Q =
 (cIf (decide ((0:Int) ≤ i)) (cIf (decide (i.toNat < m)) (cIf (decide (0 + i.toNat * 1 < ob.length)) (cIf (z1g (AV.ofVal (Value.bool false)) (ob.getD (0 + i.toNat * 1) X)) (cIf (!cB ob (0 + i.toNat * 1)) (cIf (decide ((0:Int) ≤ i)) (cIf (decide (i.toNat < m)) (cIf (decide (0 + i.toNat * 1 + 1 ≤ ob.length)) (cIf ((List.take Tryz.X128.bs [some (HB.cells c0 25),some (HB.cells (z1y ob (0 + i.toNat * 1) [Bo true]) 4),some (HB.cells [AV.row 1 0 m m] 118),some (HB.cells c3 49),some (HB.cells [I (IntKind.i64.wrap (lf - (1:Int)))] 3),some (HB.cells c5 40),some (HB.cells c6 40)]).all (okBlk Tryz.X128.bs)) (Q (CR.ret (AV.tup [])) [some (HB.cells (z0e 0 c0) 25),some (HB.cells (z0e 0 (z1y ob (0 + i.toNat * 1) [Bo true])) 4),some (HB.cells [AV.row 1 0 m m] 118),some (HB.cells (z0e 0 c3) 49),some (HB.cells [I (IntKind.i64.wrap (lf - (1:Int)))] 3),some (HB.cells (z0e 0 c5) 40),some (HB.cells (z0e 0 c6) 40)]) False) False) False) False) (cIf ((List.take Tryz.X128.bs [some (HB.cells c0 25),some (HB.cells ob 4),some (HB.cells [AV.row 1 0 m m] 118),some (HB.cells c3 49),some (HB.cells [I lf] 3),some (HB.cells c5 40),some (HB.cells c6 40)]).all (okBlk Tryz.X128.bs)) (Q (CR.ret (AV.tup [])) [some (HB.cells (z0e 0 c0) 25),some (HB.cells (z0e 0 ob) 4),some (HB.cells [AV.row 1 0 m m] 118),some (HB.cells (z0e 0 c3) 49),some (HB.cells [I lf] 3),some (HB.cells (z0e 0 c5) 40),some (HB.cells (z0e 0 c6) 40)]) False)) False) False) False) False):=by kernel_rfl
theorem e78 (l cs:List AV) (len n:Nat) (p q:Prf) (c0 c3 c5 c6 ob:List AV) (m:Nat) (lf:Int) (Q:CR→List (Option HB)→Prop):wpS Tryz.X78e 78 [.agg [.vs l len .none],.vs cs n .none,.agg (z0a p),.agg (z0a q),.fn (.func 128) [] [.ptr 2 0,.ptr 4 0]] [some (.cells c0 25),some (.cells ob 4),some (.cells [.row 1 0 m m] 118),some (.cells c3 49),some (.cells [I lf] 3),some (.cells c5 40),some (.cells c6 40)] Q =
 (cIf (noHL 12 ([X,X,X,X,AV.fn (Fn.func 128) [] [AV.ptr 2 0,AV.ptr 4 0],AV.ptr 7 0,X,AV.ptr 8 0,AV.ptr 9 0,X,AV.ptr 10 0,AV.ptr 11 0,I 0,X,X,X,X,X,X,AV.vs cs n Tok.none,I n,I 0]++List.replicate 73 X)) (cIf ([some (HB.cells c0 25),some (HB.cells ob 4),some (HB.cells [AV.row 1 0 m m] 118),some (HB.cells c3 49),some (HB.cells [I lf] 3),some (HB.cells c5 40),some (HB.cells c6 40),some (HB.cells [AV.vs l len Tok.none] 25),some (HB.cells (z0a p) 40),some (HB.cells (z0a q) 40),some (HB.cells [U 0,I 0,I 0] 42),some (HB.cells [U 0,I (-1),I (-1)] 42)].all (okBlk 12)) (z0l Tryz.X78e (cd Tryz.X78e.P 78 [1,1,1,0,1,0,0]) ([X,X,X,X,AV.fn (Fn.func 128) [] [AV.ptr 2 0,AV.ptr 4 0],AV.ptr 7 0,X,AV.ptr 8 0,AV.ptr 9 0,X,AV.ptr 10 0,AV.ptr 11 0,I 0,X,X,X,X,X,X,AV.vs cs n Tok.none,I n,I 0]++List.replicate 73 X) (St.mk [some (HB.cells c0 25),some (HB.cells ob 4),some (HB.cells [AV.row 1 0 m m] 118),some (HB.cells c3 49),some (HB.cells [I lf] 3),some (HB.cells c5 40),some (HB.cells c6 40),some (HB.cells [AV.vs l len Tok.none] 25),some (HB.cells (z0a p) 40),some (HB.cells (z0a q) 40),some (HB.cells [U 0,I 0,I 0] 42),some (HB.cells [U 0,I (-1),I (-1)] 42)] [] []) (z0d 0 (z0i Tryz.X78e (cd Tryz.X78e.P 78 [1,1,1,1]) (z0s Tryz.X78e 78 Q)))) False) False):=by kernel_rfl
theorem w7y (l cs:List AV) (len n:Nat) (p q:Prf) (v w r i:Int) (c0 c3 c5 c6 ob:List AV) (m:Nat) (lf:Int) (Q:CR→List (Option HB)→Prop):wpC Tryz.X78e (cd PP 78 [1,1,1,0,1,0,0]) ([X,X,X,X,.fn (.func 128) [] [.ptr 2 0,.ptr 4 0],.ptr 7 0,X,.ptr 8 0,.ptr 9 0,X,.ptr 10 0,.ptr 11 0,I r,X,X,X,X,X,X,.vs cs n .none,I n,I i]++List.replicate 73 X) ⟨[some (.cells c0 25),some (.cells ob 4),some (.cells [.row 1 0 m m] 118),some (.cells c3 49),some (.cells [I lf] 3),some (.cells c5 40),some (.cells c6 40),some (.cells [.vs l len .none] 25),some (.cells (z0a p) 40),some (.cells (z0a q) 40),some (.cells [U 0,I 0,I 0] 42),some (.cells [U 0,I v,I w] 42)],[],[]⟩ (z0r Tryz.X78e (cd PP 78 [1,1,1,0,1,0,0]) (z0d 0 (z0i Tryz.X78e (cd PP 78 [1,1,1,1]) (z0s Tryz.X78e 78 Q)))) =
 (cIf (decide (i < (↑n:Int))) (cIf (decide ((0:Int) ≤ i)) (cIf (decide (i.toNat < n)) (cIf (decide (n * 1 = cs.length)) (cIf (decide (0 < (List.drop (i.toNat * 1) cs).length)) (cIf (z1g (AV.ofVal (Value.int IntKind.i64 (0:Int))) ((List.drop (i.toNat * 1) cs).getD 0 X)) (cIf (decide ((0:Int) ≤ cI (List.drop (i.toNat * 1) cs) 0)) (cIf (decide ((cI (List.drop (i.toNat * 1) cs) 0).toNat < len)) (cIf (decide (len * 8 = l.length)) (cIf (decide (8 ≤ (List.drop ((cI (List.drop (i.toNat * 1) cs) 0).toNat * 8) l).length)) (cIf (like zR (el (List.drop ((cI (List.drop (i.toNat * 1) cs) 0).toNat * 8) l) 0 8)) (cIf (decide (r > cI (el (List.drop ((cI (List.drop (i.toNat * 1) cs) 0).toNat * 8) l) 0 8) 1)) (cIf ([some (HB.cells c0 25),some (HB.cells ob 4),some (HB.cells [AV.row 1 0 m m] 118),some (HB.cells c3 49),some (HB.cells [I lf] 3),some (HB.cells c5 40),some (HB.cells c6 40),some (HB.cells [AV.vs l len Tok.none] 25),some (HB.cells (z0a p) 40),some (HB.cells (z0a q) 40),some (HB.cells [U 0,I 0,I 0] 42),some (HB.cells [U 0,I v,I w] 42)].all (okBlk 12)) (z0k Tryz.X78e (cd PP 78 [1,1,1,1]) ([X,X,X,X,X,X,X,X,X,X,AV.ptr 10 0,AV.ptr 11 0]++List.replicate 83 X) (St.mk [some (HB.cells c0 25),some (HB.cells ob 4),some (HB.cells [AV.row 1 0 m m] 118),some (HB.cells c3 49),some (HB.cells [I lf] 3),some (HB.cells c5 40),some (HB.cells c6 40),some (HB.cells [AV.vs l len Tok.none] 25),some (HB.cells (z0a p) 40),some (HB.cells (z0a q) 40),some (HB.cells [U 0,I 0,I 0] 42),some (HB.cells [U 0,I v,I w] 42)] [] []) (z0s Tryz.X78e 78 Q)) False) (cIf (noHL [some (HB.cells c0 25),some (HB.cells ob 4),some (HB.cells [AV.row 1 0 m m] 118),some (HB.cells c3 49),some (HB.cells [I lf] 3),some (HB.cells c5 40),some (HB.cells c6 40),some (HB.cells [AV.vs l len Tok.none] 25),some (HB.cells (z0a p) 40),some (HB.cells (z0a q) 40),some (HB.cells [U 0,I 0,I 0] 42),some (HB.cells [U 0,I v,I w] 42),some (HB.cells (elR (el (List.drop ((cI (List.drop (i.toNat * 1) cs) 0).toNat * 8) l) 0 8)) 73)].length ([]++[AV.agg (z5k (el (List.drop ((cI (List.drop (i.toNat * 1) cs) 0).toNat * 8) l) 0 8)),AV.agg (z0a p),AV.agg (z0a q)]++[])) (((∃ (t:Tst),(z5k (el (List.drop ((cI (List.drop (i.toNat * 1) cs) 0).toNat * 8) l) 0 8)) = z0m t∧wfT t∧shT t = true)∧(∃ (a:Prf),(z0a p) = z0a a)∧∃ (b:Prf),(z0a q) = z0a b)∧St.mk [some (HB.cells c0 25),some (HB.cells ob 4),some (HB.cells [AV.row 1 0 m m] 118),some (HB.cells c3 49),some (HB.cells [I lf] 3),some (HB.cells c5 40),some (HB.cells c6 40),some (HB.cells [AV.vs l len Tok.none] 25),some (HB.cells (z0a p) 40),some (HB.cells (z0a q) 40),some (HB.cells [U 0,I 0,I 0] 42),some (HB.cells [U 0,I v,I w] 42),some (HB.cells (elR (el (List.drop ((cI (List.drop (i.toNat * 1) cs) 0).toNat * 8) l) 0 8)) 73)] [] [12] = St.mk [some (HB.cells c0 25),some (HB.cells ob 4),some (HB.cells [AV.row 1 0 m m] 118),some (HB.cells c3 49),some (HB.cells [I lf] 3),some (HB.cells c5 40),some (HB.cells c6 40),some (HB.cells [AV.vs l len Tok.none] 25),some (HB.cells (z0a p) 40),some (HB.cells (z0a q) 40),some (HB.cells [U 0,I 0,I 0] 42),some (HB.cells [U 0,I v,I w] 42),some (HB.cells (elR (el (List.drop ((cI (List.drop (i.toNat * 1) cs) 0).toNat * 8) l) 0 8)) 73)] [] [12]∧cIf (noHL [some (HB.cells c0 25),some (HB.cells ob 4),some (HB.cells [AV.row 1 0 m m] 118),some (HB.cells c3 49),some (HB.cells [I lf] 3),some (HB.cells c5 40),some (HB.cells c6 40),some (HB.cells [AV.vs l len Tok.none] 25),some (HB.cells (z0a p) 40),some (HB.cells (z0a q) 40),some (HB.cells [U 0,I 0,I 0] 42),some (HB.cells [U 0,I v,I w] 42),some (HB.cells (elR (el (List.drop ((cI (List.drop (i.toNat * 1) cs) 0).toNat * 8) l) 0 8)) 73)].length ([]++[AV.agg (z5k (el (List.drop ((cI (List.drop (i.toNat * 1) cs) 0).toNat * 8) l) 0 8)),AV.agg (z0a q),AV.agg (z0a p)]++[])) (((∃ (t:Tst),(z5k (el (List.drop ((cI (List.drop (i.toNat * 1) cs) 0).toNat * 8) l) 0 8)) = z0m t∧wfT t∧shT t = true)∧(∃ (a:Prf),(z0a q) = z0a a)∧∃ (b:Prf),(z0a p) = z0a b)∧St.mk [some (HB.cells c0 25),some (HB.cells ob 4),some (HB.cells [AV.row 1 0 m m] 118),some (HB.cells c3 49),some (HB.cells [I lf] 3),some (HB.cells c5 40),some (HB.cells c6 40),some (HB.cells [AV.vs l len Tok.none] 25),some (HB.cells (z0a p) 40),some (HB.cells (z0a q) 40),some (HB.cells [U 0,I 0,I 0] 42),some (HB.cells [U 0,I v,I w] 42),some (HB.cells (elR (el (List.drop ((cI (List.drop (i.toNat * 1) cs) 0).toNat * 8) l) 0 8)) 73)] [] [12] = St.mk [some (HB.cells c0 25),some (HB.cells ob 4),some (HB.cells [AV.row 1 0 m m] 118),some (HB.cells c3 49),some (HB.cells [I lf] 3),some (HB.cells c5 40),some (HB.cells c6 40),some (HB.cells [AV.vs l len Tok.none] 25),some (HB.cells (z0a p) 40),some (HB.cells (z0a q) 40),some (HB.cells [U 0,I 0,I 0] 42),some (HB.cells [U 0,I v,I w] 42),some (HB.cells (elR (el (List.drop ((cI (List.drop (i.toNat * 1) cs) 0).toNat * 8) l) 0 8)) 73)] [] [12]∧cIf (noHL 13 ([X,X,X,X,AV.fn (Fn.func 128) [] [AV.ptr 2 0,AV.ptr 4 0],AV.ptr 7 0,X,AV.ptr 8 0,AV.ptr 9 0,X,AV.ptr 10 0,AV.ptr 11 0,I r,X,I (cI (List.drop (i.toNat * 1) cs) 0),AV.ptr 12 0,AV.bool (z0g z0m (fun (t:Tst)=>z0g z0a (fun (a:Prf)=>z0g z0a (fun (b:Prf)=>hoT t a b) false (z0a q)) false (z0a p)) false (z5k (el (List.drop ((cI (List.drop (i.toNat * 1) cs) 0).toNat * 8) l) 0 8))),AV.bool (z0g z0m (fun (t:Tst)=>z0g z0a (fun (a:Prf)=>z0g z0a (fun (b:Prf)=>hoT t a b) false (z0a p)) false (z0a q)) false (z5k (el (List.drop ((cI (List.drop (i.toNat * 1) cs) 0).toNat * 8) l) 0 8))),X,AV.vs cs n Tok.none,I n,I i]++List.replicate 73 X)) (cIf ([some (HB.cells c0 25),some (HB.cells ob 4),some (HB.cells [AV.row 1 0 m m] 118),some (HB.cells c3 49),some (HB.cells [I lf] 3),some (HB.cells c5 40),some (HB.cells c6 40),some (HB.cells [AV.vs l len Tok.none] 25),some (HB.cells (z0a p) 40),some (HB.cells (z0a q) 40),some (HB.cells [U 0,I 0,I 0] 42),some (HB.cells [U 0,I v,I w] 42),some (HB.cells (elR (el (List.drop ((cI (List.drop (i.toNat * 1) cs) 0).toNat * 8) l) 0 8)) 73)].all (okBlk 13)) (z0k Tryz.X78e (cd PP 78 [1,1,1,0,1,0,0,1,1,0,0,1,1,1,1]) ([X,X,X,X,AV.fn (Fn.func 128) [] [AV.ptr 2 0,AV.ptr 4 0],AV.ptr 7 0,X,AV.ptr 8 0,AV.ptr 9 0,X,AV.ptr 10 0,AV.ptr 11 0,I r,X,I (cI (List.drop (i.toNat * 1) cs) 0),AV.ptr 12 0,AV.bool (z0g z0m (fun (t:Tst)=>z0g z0a (fun (a:Prf)=>z0g z0a (fun (b:Prf)=>hoT t a b) false (z0a q)) false (z0a p)) false (z5k (el (List.drop ((cI (List.drop (i.toNat * 1) cs) 0).toNat * 8) l) 0 8))),AV.bool (z0g z0m (fun (t:Tst)=>z0g z0a (fun (a:Prf)=>z0g z0a (fun (b:Prf)=>hoT t a b) false (z0a p)) false (z0a q)) false (z5k (el (List.drop ((cI (List.drop (i.toNat * 1) cs) 0).toNat * 8) l) 0 8))),X,AV.vs cs n Tok.none,I n,I i]++List.replicate 73 X) (St.mk [some (HB.cells c0 25),some (HB.cells ob 4),some (HB.cells [AV.row 1 0 m m] 118),some (HB.cells c3 49),some (HB.cells [I lf] 3),some (HB.cells c5 40),some (HB.cells c6 40),some (HB.cells [AV.vs l len Tok.none] 25),some (HB.cells (z0a p) 40),some (HB.cells (z0a q) 40),some (HB.cells [U 0,I 0,I 0] 42),some (HB.cells [U 0,I v,I w] 42),some (HB.cells (elR (el (List.drop ((cI (List.drop (i.toNat * 1) cs) 0).toNat * 8) l) 0 8)) 73)] [] []) (z0d 1 (z0i Tryz.X78e (cd PP 78 [1,1,1,0,1,0,0,1,1,1]) (z0r Tryz.X78e (cd PP 78 [1,1,1,0,1,0,0]) (z0d 0 (z0i Tryz.X78e (cd PP 78 [1,1,1,1]) (z0s Tryz.X78e 78 Q))))))) False) False) False) False)) False) False) False) False) False) False) False) False) False) False) (cIf ([some (HB.cells c0 25),some (HB.cells ob 4),some (HB.cells [AV.row 1 0 m m] 118),some (HB.cells c3 49),some (HB.cells [I lf] 3),some (HB.cells c5 40),some (HB.cells c6 40),some (HB.cells [AV.vs l len Tok.none] 25),some (HB.cells (z0a p) 40),some (HB.cells (z0a q) 40),some (HB.cells [U 0,I 0,I 0] 42),some (HB.cells [U 0,I v,I w] 42)].all (okBlk 12)) (z0k Tryz.X78e (cd PP 78 [1,1,1,1]) ([X,X,X,X,X,X,X,X,X,X,AV.ptr 10 0,AV.ptr 11 0]++List.replicate 83 X) (St.mk [some (HB.cells c0 25),some (HB.cells ob 4),some (HB.cells [AV.row 1 0 m m] 118),some (HB.cells c3 49),some (HB.cells [I lf] 3),some (HB.cells c5 40),some (HB.cells c6 40),some (HB.cells [AV.vs l len Tok.none] 25),some (HB.cells (z0a p) 40),some (HB.cells (z0a q) 40),some (HB.cells [U 0,I 0,I 0] 42),some (HB.cells [U 0,I v,I w] 42)] [] []) (z0s Tryz.X78e 78 Q)) False)):=by kernel_rfl
theorem v1d (l cs:List AV) (len n:Nat) (p q:Prf) (x:Rul) (t b:Bool) (v w r i j:Int) (c0 c3 c5 c6 ob:List AV) (m:Nat) (lf:Int) (Q:CR→List (Option HB)→Prop):wpC Tryz.X78e (cd PP 78 [1,1,1,0,1,0,0,1,1,0,0,1,1,1,1]) ([X,X,X,X,.fn (.func 128) [] [.ptr 2 0,.ptr 4 0],.ptr 7 0,X,.ptr 8 0,.ptr 9 0,X,.ptr 10 0,.ptr 11 0,I r,X,I j,.ptr 12 0,Bo t,Bo b,X,.vs cs n .none,I n,I i]++List.replicate 73 X) ⟨[some (.cells c0 25),some (.cells ob 4),some (.cells [.row 1 0 m m] 118),some (.cells c3 49),some (.cells [I lf] 3),some (.cells c5 40),some (.cells c6 40),some (.cells [.vs l len .none] 25),some (.cells (z0a p) 40),some (.cells (z0a q) 40),some (.cells [U 0,I 0,I 0] 42),some (.cells [U 0,I v,I w] 42),some (.cells (z1d x) 73)],[],[]⟩ (z0d 1 (z0i Tryz.X78e (cd PP 78 [1,1,1,0,1,0,0,1,1,1]) (z0r Tryz.X78e (cd PP 78 [1,1,1,0,1,0,0]) (z0d 0 (z0i Tryz.X78e (cd PP 78 [1,1,1,1]) (z0s Tryz.X78e 78 Q)))))) =
 (cIf (!t) (cIf (!b) (cIf (noHL 12 ([X,X,X,X,AV.fn (Fn.func 128) [] [AV.ptr 2 0,AV.ptr 4 0],AV.ptr 7 0,X,AV.ptr 8 0,AV.ptr 9 0,X,AV.ptr 10 0,AV.ptr 11 0,I r,X,X,X,X,X,X,AV.vs cs n Tok.none,I n,I (IntKind.i64.wrap (i + (1:Int)))]++List.replicate 73 X)) (cIf ([some (HB.cells c0 25),some (HB.cells ob 4),some (HB.cells [AV.row 1 0 m m] 118),some (HB.cells c3 49),some (HB.cells [I lf] 3),some (HB.cells c5 40),some (HB.cells c6 40),some (HB.cells [AV.vs l len Tok.none] 25),some (HB.cells (z0a p) 40),some (HB.cells (z0a q) 40),some (HB.cells [U 0,I 0,I 0] 42),some (HB.cells [U 0,I v,I w] 42)].all (okBlk 12)) (z0l Tryz.X78e (cd PP 78 [1,1,1,0,1,0,0]) ([X,X,X,X,AV.fn (Fn.func 128) [] [AV.ptr 2 0,AV.ptr 4 0],AV.ptr 7 0,X,AV.ptr 8 0,AV.ptr 9 0,X,AV.ptr 10 0,AV.ptr 11 0,I r,X,X,X,X,X,X,AV.vs cs n Tok.none,I n,I (IntKind.i64.wrap (i + (1:Int)))]++List.replicate 73 X) (St.mk [some (HB.cells c0 25),some (HB.cells ob 4),some (HB.cells [AV.row 1 0 m m] 118),some (HB.cells c3 49),some (HB.cells [I lf] 3),some (HB.cells c5 40),some (HB.cells c6 40),some (HB.cells [AV.vs l len Tok.none] 25),some (HB.cells (z0a p) 40),some (HB.cells (z0a q) 40),some (HB.cells [U 0,I 0,I 0] 42),some (HB.cells [U 0,I v,I w] 42)] [] []) (z0d 0 (z0i Tryz.X78e (cd PP 78 [1,1,1,1]) (z0s Tryz.X78e 78 Q)))) False) False) ((∃ (o:List Bool),ob = z07 o∧m = o.length∧m = m∧(0:Int) ≤ j∧j < (↑m:Int)∧m ≤ 1000∧(0:Int) ≤ lf∧lf ≤ (1000:Int)∧z2p c0∧z2p c3∧z2p c5∧z2p c6)∧(noHL 7 ([]++[I j]++[AV.ptr 2 0,AV.ptr 4 0]) = true∧(List.take 7 [some (HB.cells c0 25),some (HB.cells ob 4),some (HB.cells [AV.row 1 0 m m] 118),some (HB.cells c3 49),some (HB.cells [I lf] 3),some (HB.cells c5 40),some (HB.cells c6 40),some (HB.cells [AV.vs l len Tok.none] 25),some (HB.cells (z0a p) 40),some (HB.cells (z0a q) 40),some (HB.cells [U 0,I 0,I 0] 42),some (HB.cells [U 0,I v,I w] 42),some (HB.cells (z1d x) 73)]).all (z1i 7) = true∧[some (HB.cells c0 (25:TypeId)),some (HB.cells (z07 (mkO ob lf j).fst) (4:TypeId)),some (HB.cells [AV.row 1 0 m m] (118:TypeId)),some (HB.cells c3 (49:TypeId)),some (HB.cells [I (mkO ob lf j).snd] (3:TypeId)),some (HB.cells c5 (40:TypeId)),some (HB.cells c6 (40:TypeId))].length = 7∧7 ≤ [some (HB.cells c0 25),some (HB.cells ob 4),some (HB.cells [AV.row 1 0 m m] 118),some (HB.cells c3 49),some (HB.cells [I lf] 3),some (HB.cells c5 40),some (HB.cells c6 40),some (HB.cells [AV.vs l len Tok.none] 25),some (HB.cells (z0a p) 40),some (HB.cells (z0a q) 40),some (HB.cells [U 0,I 0,I 0] 42),some (HB.cells [U 0,I v,I w] 42),some (HB.cells (z1d x) 73)].length)∧cIf (noHL 12 ([X,X,X,X,AV.fn (Fn.func 128) [] [AV.ptr 2 0,AV.ptr 4 0],AV.ptr 7 0,X,AV.ptr 8 0,AV.ptr 9 0,X,AV.ptr 10 0,AV.ptr 11 0,I x.rank,X,I j,X,Bo t,Bo b,X,AV.vs cs n Tok.none,I n,I i]++List.replicate 73 X)) (cIf ([some (HB.cells c0 25),some (HB.cells (z07 (mkO ob lf j).fst) 4),some (HB.cells [AV.row 1 0 m m] 118),some (HB.cells c3 49),some (HB.cells [I (mkO ob lf j).snd] 3),some (HB.cells c5 40),some (HB.cells c6 40),some (HB.cells [AV.vs l len Tok.none] 25),some (HB.cells (z0a p) 40),some (HB.cells (z0a q) 40),some (HB.cells [U 0,I 0,I 0] 42),some (HB.cells [U 0,I v,I w] 42)].all (okBlk 12)) (z0k Tryz.X78e (cd PP 78 [1,1,1,0,1,0,0,1,1,0,0,1,1,1,1,1,1,1]) ([X,X,X,X,AV.fn (Fn.func 128) [] [AV.ptr 2 0,AV.ptr 4 0],AV.ptr 7 0,X,AV.ptr 8 0,AV.ptr 9 0,X,AV.ptr 10 0,AV.ptr 11 0,I x.rank,X,I j,X,Bo t,Bo b,X,AV.vs cs n Tok.none,I n,I i]++List.replicate 73 X) (St.mk [some (HB.cells c0 25),some (HB.cells (z07 (mkO ob lf j).fst) 4),some (HB.cells [AV.row 1 0 m m] 118),some (HB.cells c3 49),some (HB.cells [I (mkO ob lf j).snd] 3),some (HB.cells c5 40),some (HB.cells c6 40),some (HB.cells [AV.vs l len Tok.none] 25),some (HB.cells (z0a p) 40),some (HB.cells (z0a q) 40),some (HB.cells [U 0,I 0,I 0] 42),some (HB.cells [U 0,I v,I w] 42)] [] []) (z0d 1 (z0i Tryz.X78e (cd PP 78 [1,1,1,0,1,0,0,1,1,1]) (z0r Tryz.X78e (cd PP 78 [1,1,1,0,1,0,0]) (z0d 0 (z0i Tryz.X78e (cd PP 78 [1,1,1,1]) (z0s Tryz.X78e 78 Q))))))) False) False)) ((∃ (o:List Bool),ob = z07 o∧m = o.length∧m = m∧(0:Int) ≤ j∧j < (↑m:Int)∧m ≤ 1000∧(0:Int) ≤ lf∧lf ≤ (1000:Int)∧z2p c0∧z2p c3∧z2p c5∧z2p c6)∧(noHL 7 ([]++[I j]++[AV.ptr 2 0,AV.ptr 4 0]) = true∧(List.take 7 [some (HB.cells c0 25),some (HB.cells ob 4),some (HB.cells [AV.row 1 0 m m] 118),some (HB.cells c3 49),some (HB.cells [I lf] 3),some (HB.cells c5 40),some (HB.cells c6 40),some (HB.cells [AV.vs l len Tok.none] 25),some (HB.cells (z0a p) 40),some (HB.cells (z0a q) 40),some (HB.cells [U 0,I 0,I 0] 42),some (HB.cells [U 0,I v,I w] 42),some (HB.cells (z1d x) 73)]).all (z1i 7) = true∧[some (HB.cells c0 (25:TypeId)),some (HB.cells (z07 (mkO ob lf j).fst) (4:TypeId)),some (HB.cells [AV.row 1 0 m m] (118:TypeId)),some (HB.cells c3 (49:TypeId)),some (HB.cells [I (mkO ob lf j).snd] (3:TypeId)),some (HB.cells c5 (40:TypeId)),some (HB.cells c6 (40:TypeId))].length = 7∧7 ≤ [some (HB.cells c0 25),some (HB.cells ob 4),some (HB.cells [AV.row 1 0 m m] 118),some (HB.cells c3 49),some (HB.cells [I lf] 3),some (HB.cells c5 40),some (HB.cells c6 40),some (HB.cells [AV.vs l len Tok.none] 25),some (HB.cells (z0a p) 40),some (HB.cells (z0a q) 40),some (HB.cells [U 0,I 0,I 0] 42),some (HB.cells [U 0,I v,I w] 42),some (HB.cells (z1d x) 73)].length)∧cIf (noHL 12 ([X,X,X,X,AV.fn (Fn.func 128) [] [AV.ptr 2 0,AV.ptr 4 0],AV.ptr 7 0,X,AV.ptr 8 0,AV.ptr 9 0,X,AV.ptr 10 0,AV.ptr 11 0,I x.rank,X,I j,X,Bo t,Bo b,X,AV.vs cs n Tok.none,I n,I i]++List.replicate 73 X)) (cIf ([some (HB.cells c0 25),some (HB.cells (z07 (mkO ob lf j).fst) 4),some (HB.cells [AV.row 1 0 m m] 118),some (HB.cells c3 49),some (HB.cells [I (mkO ob lf j).snd] 3),some (HB.cells c5 40),some (HB.cells c6 40),some (HB.cells [AV.vs l len Tok.none] 25),some (HB.cells (z0a p) 40),some (HB.cells (z0a q) 40),some (HB.cells [U 0,I 0,I 0] 42),some (HB.cells [U 0,I v,I w] 42)].all (okBlk 12)) (z0k Tryz.X78e (cd PP 78 [1,1,1,0,1,0,0,1,1,0,0,1,1,1,1,1,1,1]) ([X,X,X,X,AV.fn (Fn.func 128) [] [AV.ptr 2 0,AV.ptr 4 0],AV.ptr 7 0,X,AV.ptr 8 0,AV.ptr 9 0,X,AV.ptr 10 0,AV.ptr 11 0,I x.rank,X,I j,X,Bo t,Bo b,X,AV.vs cs n Tok.none,I n,I i]++List.replicate 73 X) (St.mk [some (HB.cells c0 25),some (HB.cells (z07 (mkO ob lf j).fst) 4),some (HB.cells [AV.row 1 0 m m] 118),some (HB.cells c3 49),some (HB.cells [I (mkO ob lf j).snd] 3),some (HB.cells c5 40),some (HB.cells c6 40),some (HB.cells [AV.vs l len Tok.none] 25),some (HB.cells (z0a p) 40),some (HB.cells (z0a q) 40),some (HB.cells [U 0,I 0,I 0] 42),some (HB.cells [U 0,I v,I w] 42)] [] []) (z0d 1 (z0i Tryz.X78e (cd PP 78 [1,1,1,0,1,0,0,1,1,1]) (z0r Tryz.X78e (cd PP 78 [1,1,1,0,1,0,0]) (z0d 0 (z0i Tryz.X78e (cd PP 78 [1,1,1,1]) (z0s Tryz.X78e 78 Q))))))) False) False)):=by kernel_rfl
theorem v1c (l cs:List AV) (len n:Nat) (p q:Prf) (t b:Bool) (v w r i j:Int) (c0 c3 c5 c6 ob:List AV) (m:Nat) (lf:Int) (Q:CR→List (Option HB)→Prop):wpC Tryz.X78e (cd PP 78 [1,1,1,0,1,0,0,1,1,0,0,1,1,1,1,1,1,1]) ([X,X,X,X,.fn (.func 128) [] [.ptr 2 0,.ptr 4 0],.ptr 7 0,X,.ptr 8 0,.ptr 9 0,X,.ptr 10 0,.ptr 11 0,I r,X,I j,X,Bo t,Bo b,X,.vs cs n .none,I n,I i]++List.replicate 73 X) ⟨[some (.cells c0 25),some (.cells ob 4),some (.cells [.row 1 0 m m] 118),some (.cells c3 49),some (.cells [I lf] 3),some (.cells c5 40),some (.cells c6 40),some (.cells [.vs l len .none] 25),some (.cells (z0a p) 40),some (.cells (z0a q) 40),some (.cells [U 0,I 0,I 0] 42),some (.cells [U 0,I v,I w] 42)],[],[]⟩ (z0d 1 (z0i Tryz.X78e (cd PP 78 [1,1,1,0,1,0,0,1,1,1]) (z0r Tryz.X78e (cd PP 78 [1,1,1,0,1,0,0]) (z0d 0 (z0i Tryz.X78e (cd PP 78 [1,1,1,1]) (z0s Tryz.X78e 78 Q)))))) =
 (cIf t (cIf (decide (v < (0:Int))) (cIf (noHL 12 ([X,X,X,X,AV.fn (Fn.func 128) [] [AV.ptr 2 0,AV.ptr 4 0],AV.ptr 7 0,X,AV.ptr 8 0,AV.ptr 9 0,X,AV.ptr 10 0,AV.ptr 11 0,I r,X,I j,X,X,Bo b,X,AV.vs cs n Tok.none,I n,I i]++List.replicate 73 X)) (cIf ([some (HB.cells c0 25),some (HB.cells ob 4),some (HB.cells [AV.row 1 0 m m] 118),some (HB.cells c3 49),some (HB.cells [I lf] 3),some (HB.cells c5 40),some (HB.cells c6 40),some (HB.cells [AV.vs l len Tok.none] 25),some (HB.cells (z0a p) 40),some (HB.cells (z0a q) 40),some (HB.cells [U 0,I 0,I 0] 42),some (HB.cells [U 0,I j,I w] 42)].all (okBlk 12)) (z0k Tryz.X78e (cd PP 78 [1,1,1,0,1,0,0,1,1,0,0,1,1,1,1,1,1,1,1]) ([X,X,X,X,AV.fn (Fn.func 128) [] [AV.ptr 2 0,AV.ptr 4 0],AV.ptr 7 0,X,AV.ptr 8 0,AV.ptr 9 0,X,AV.ptr 10 0,AV.ptr 11 0,I r,X,I j,X,X,Bo b,X,AV.vs cs n Tok.none,I n,I i]++List.replicate 73 X) (St.mk [some (HB.cells c0 25),some (HB.cells ob 4),some (HB.cells [AV.row 1 0 m m] 118),some (HB.cells c3 49),some (HB.cells [I lf] 3),some (HB.cells c5 40),some (HB.cells c6 40),some (HB.cells [AV.vs l len Tok.none] 25),some (HB.cells (z0a p) 40),some (HB.cells (z0a q) 40),some (HB.cells [U 0,I 0,I 0] 42),some (HB.cells [U 0,I j,I w] 42)] [] []) (z0d 1 (z0i Tryz.X78e (cd PP 78 [1,1,1,0,1,0,0,1,1,1]) (z0r Tryz.X78e (cd PP 78 [1,1,1,0,1,0,0]) (z0d 0 (z0i Tryz.X78e (cd PP 78 [1,1,1,1]) (z0s Tryz.X78e 78 Q))))))) False) False) (cIf (noHL 12 ([X,X,X,X,AV.fn (Fn.func 128) [] [AV.ptr 2 0,AV.ptr 4 0],AV.ptr 7 0,X,AV.ptr 8 0,AV.ptr 9 0,X,AV.ptr 10 0,AV.ptr 11 0,I r,X,I j,X,X,Bo b,X,AV.vs cs n Tok.none,I n,I i]++List.replicate 73 X)) (cIf ([some (HB.cells c0 25),some (HB.cells ob 4),some (HB.cells [AV.row 1 0 m m] 118),some (HB.cells c3 49),some (HB.cells [I lf] 3),some (HB.cells c5 40),some (HB.cells c6 40),some (HB.cells [AV.vs l len Tok.none] 25),some (HB.cells (z0a p) 40),some (HB.cells (z0a q) 40),some (HB.cells [U 0,I 0,I 0] 42),some (HB.cells [U 0,I v,I w] 42)].all (okBlk 12)) (z0k Tryz.X78e (cd PP 78 [1,1,1,0,1,0,0,1,1,0,0,1,1,1,1,1,1,1,1]) ([X,X,X,X,AV.fn (Fn.func 128) [] [AV.ptr 2 0,AV.ptr 4 0],AV.ptr 7 0,X,AV.ptr 8 0,AV.ptr 9 0,X,AV.ptr 10 0,AV.ptr 11 0,I r,X,I j,X,X,Bo b,X,AV.vs cs n Tok.none,I n,I i]++List.replicate 73 X) (St.mk [some (HB.cells c0 25),some (HB.cells ob 4),some (HB.cells [AV.row 1 0 m m] 118),some (HB.cells c3 49),some (HB.cells [I lf] 3),some (HB.cells c5 40),some (HB.cells c6 40),some (HB.cells [AV.vs l len Tok.none] 25),some (HB.cells (z0a p) 40),some (HB.cells (z0a q) 40),some (HB.cells [U 0,I 0,I 0] 42),some (HB.cells [U 0,I v,I w] 42)] [] []) (z0d 1 (z0i Tryz.X78e (cd PP 78 [1,1,1,0,1,0,0,1,1,1]) (z0r Tryz.X78e (cd PP 78 [1,1,1,0,1,0,0]) (z0d 0 (z0i Tryz.X78e (cd PP 78 [1,1,1,1]) (z0s Tryz.X78e 78 Q))))))) False) False)) (cIf (noHL 12 ([X,X,X,X,AV.fn (Fn.func 128) [] [AV.ptr 2 0,AV.ptr 4 0],AV.ptr 7 0,X,AV.ptr 8 0,AV.ptr 9 0,X,AV.ptr 10 0,AV.ptr 11 0,I r,X,I j,X,X,Bo b,X,AV.vs cs n Tok.none,I n,I i]++List.replicate 73 X)) (cIf ([some (HB.cells c0 25),some (HB.cells ob 4),some (HB.cells [AV.row 1 0 m m] 118),some (HB.cells c3 49),some (HB.cells [I lf] 3),some (HB.cells c5 40),some (HB.cells c6 40),some (HB.cells [AV.vs l len Tok.none] 25),some (HB.cells (z0a p) 40),some (HB.cells (z0a q) 40),some (HB.cells [U 0,I 0,I 0] 42),some (HB.cells [U 0,I v,I w] 42)].all (okBlk 12)) (z0k Tryz.X78e (cd PP 78 [1,1,1,0,1,0,0,1,1,0,0,1,1,1,1,1,1,1,1]) ([X,X,X,X,AV.fn (Fn.func 128) [] [AV.ptr 2 0,AV.ptr 4 0],AV.ptr 7 0,X,AV.ptr 8 0,AV.ptr 9 0,X,AV.ptr 10 0,AV.ptr 11 0,I r,X,I j,X,X,Bo b,X,AV.vs cs n Tok.none,I n,I i]++List.replicate 73 X) (St.mk [some (HB.cells c0 25),some (HB.cells ob 4),some (HB.cells [AV.row 1 0 m m] 118),some (HB.cells c3 49),some (HB.cells [I lf] 3),some (HB.cells c5 40),some (HB.cells c6 40),some (HB.cells [AV.vs l len Tok.none] 25),some (HB.cells (z0a p) 40),some (HB.cells (z0a q) 40),some (HB.cells [U 0,I 0,I 0] 42),some (HB.cells [U 0,I v,I w] 42)] [] []) (z0d 1 (z0i Tryz.X78e (cd PP 78 [1,1,1,0,1,0,0,1,1,1]) (z0r Tryz.X78e (cd PP 78 [1,1,1,0,1,0,0]) (z0d 0 (z0i Tryz.X78e (cd PP 78 [1,1,1,1]) (z0s Tryz.X78e 78 Q))))))) False) False)):=by kernel_rfl
theorem v1b (l cs:List AV) (len n:Nat) (p q:Prf) (b:Bool) (v w r i j:Int) (c0 c3 c5 c6 ob:List AV) (m:Nat) (lf:Int) (Q:CR→List (Option HB)→Prop):wpC Tryz.X78e (cd PP 78 [1,1,1,0,1,0,0,1,1,0,0,1,1,1,1,1,1,1,1]) ([X,X,X,X,.fn (.func 128) [] [.ptr 2 0,.ptr 4 0],.ptr 7 0,X,.ptr 8 0,.ptr 9 0,X,.ptr 10 0,.ptr 11 0,I r,X,I j,X,X,Bo b,X,.vs cs n .none,I n,I i]++List.replicate 73 X) ⟨[some (.cells c0 25),some (.cells ob 4),some (.cells [.row 1 0 m m] 118),some (.cells c3 49),some (.cells [I lf] 3),some (.cells c5 40),some (.cells c6 40),some (.cells [.vs l len .none] 25),some (.cells (z0a p) 40),some (.cells (z0a q) 40),some (.cells [U 0,I 0,I 0] 42),some (.cells [U 0,I v,I w] 42)],[],[]⟩ (z0d 1 (z0i Tryz.X78e (cd PP 78 [1,1,1,0,1,0,0,1,1,1]) (z0r Tryz.X78e (cd PP 78 [1,1,1,0,1,0,0]) (z0d 0 (z0i Tryz.X78e (cd PP 78 [1,1,1,1]) (z0s Tryz.X78e 78 Q)))))) =
 (cIf b (cIf (decide (w < (0:Int))) (cIf (noHL 12 ([X,X,X,X,AV.fn (Fn.func 128) [] [AV.ptr 2 0,AV.ptr 4 0],AV.ptr 7 0,X,AV.ptr 8 0,AV.ptr 9 0,X,AV.ptr 10 0,AV.ptr 11 0,I r,X,X,X,X,X,X,AV.vs cs n Tok.none,I n,I (IntKind.i64.wrap (i + (1:Int)))]++List.replicate 73 X)) (cIf ([some (HB.cells c0 25),some (HB.cells ob 4),some (HB.cells [AV.row 1 0 m m] 118),some (HB.cells c3 49),some (HB.cells [I lf] 3),some (HB.cells c5 40),some (HB.cells c6 40),some (HB.cells [AV.vs l len Tok.none] 25),some (HB.cells (z0a p) 40),some (HB.cells (z0a q) 40),some (HB.cells [U 0,I 0,I 0] 42),some (HB.cells [U 0,I v,I j] 42)].all (okBlk 12)) (z0l Tryz.X78e (cd PP 78 [1,1,1,0,1,0,0]) ([X,X,X,X,AV.fn (Fn.func 128) [] [AV.ptr 2 0,AV.ptr 4 0],AV.ptr 7 0,X,AV.ptr 8 0,AV.ptr 9 0,X,AV.ptr 10 0,AV.ptr 11 0,I r,X,X,X,X,X,X,AV.vs cs n Tok.none,I n,I (IntKind.i64.wrap (i + (1:Int)))]++List.replicate 73 X) (St.mk [some (HB.cells c0 25),some (HB.cells ob 4),some (HB.cells [AV.row 1 0 m m] 118),some (HB.cells c3 49),some (HB.cells [I lf] 3),some (HB.cells c5 40),some (HB.cells c6 40),some (HB.cells [AV.vs l len Tok.none] 25),some (HB.cells (z0a p) 40),some (HB.cells (z0a q) 40),some (HB.cells [U 0,I 0,I 0] 42),some (HB.cells [U 0,I v,I j] 42)] [] []) (z0d 0 (z0i Tryz.X78e (cd PP 78 [1,1,1,1]) (z0s Tryz.X78e 78 Q)))) False) False) (cIf (noHL 12 ([X,X,X,X,AV.fn (Fn.func 128) [] [AV.ptr 2 0,AV.ptr 4 0],AV.ptr 7 0,X,AV.ptr 8 0,AV.ptr 9 0,X,AV.ptr 10 0,AV.ptr 11 0,I r,X,X,X,X,X,X,AV.vs cs n Tok.none,I n,I (IntKind.i64.wrap (i + (1:Int)))]++List.replicate 73 X)) (cIf ([some (HB.cells c0 25),some (HB.cells ob 4),some (HB.cells [AV.row 1 0 m m] 118),some (HB.cells c3 49),some (HB.cells [I lf] 3),some (HB.cells c5 40),some (HB.cells c6 40),some (HB.cells [AV.vs l len Tok.none] 25),some (HB.cells (z0a p) 40),some (HB.cells (z0a q) 40),some (HB.cells [U 0,I 0,I 0] 42),some (HB.cells [U 0,I v,I w] 42)].all (okBlk 12)) (z0l Tryz.X78e (cd PP 78 [1,1,1,0,1,0,0]) ([X,X,X,X,AV.fn (Fn.func 128) [] [AV.ptr 2 0,AV.ptr 4 0],AV.ptr 7 0,X,AV.ptr 8 0,AV.ptr 9 0,X,AV.ptr 10 0,AV.ptr 11 0,I r,X,X,X,X,X,X,AV.vs cs n Tok.none,I n,I (IntKind.i64.wrap (i + (1:Int)))]++List.replicate 73 X) (St.mk [some (HB.cells c0 25),some (HB.cells ob 4),some (HB.cells [AV.row 1 0 m m] 118),some (HB.cells c3 49),some (HB.cells [I lf] 3),some (HB.cells c5 40),some (HB.cells c6 40),some (HB.cells [AV.vs l len Tok.none] 25),some (HB.cells (z0a p) 40),some (HB.cells (z0a q) 40),some (HB.cells [U 0,I 0,I 0] 42),some (HB.cells [U 0,I v,I w] 42)] [] []) (z0d 0 (z0i Tryz.X78e (cd PP 78 [1,1,1,1]) (z0s Tryz.X78e 78 Q)))) False) False)) (cIf (noHL 12 ([X,X,X,X,AV.fn (Fn.func 128) [] [AV.ptr 2 0,AV.ptr 4 0],AV.ptr 7 0,X,AV.ptr 8 0,AV.ptr 9 0,X,AV.ptr 10 0,AV.ptr 11 0,I r,X,X,X,X,X,X,AV.vs cs n Tok.none,I n,I (IntKind.i64.wrap (i + (1:Int)))]++List.replicate 73 X)) (cIf ([some (HB.cells c0 25),some (HB.cells ob 4),some (HB.cells [AV.row 1 0 m m] 118),some (HB.cells c3 49),some (HB.cells [I lf] 3),some (HB.cells c5 40),some (HB.cells c6 40),some (HB.cells [AV.vs l len Tok.none] 25),some (HB.cells (z0a p) 40),some (HB.cells (z0a q) 40),some (HB.cells [U 0,I 0,I 0] 42),some (HB.cells [U 0,I v,I w] 42)].all (okBlk 12)) (z0l Tryz.X78e (cd PP 78 [1,1,1,0,1,0,0]) ([X,X,X,X,AV.fn (Fn.func 128) [] [AV.ptr 2 0,AV.ptr 4 0],AV.ptr 7 0,X,AV.ptr 8 0,AV.ptr 9 0,X,AV.ptr 10 0,AV.ptr 11 0,I r,X,X,X,X,X,X,AV.vs cs n Tok.none,I n,I (IntKind.i64.wrap (i + (1:Int)))]++List.replicate 73 X) (St.mk [some (HB.cells c0 25),some (HB.cells ob 4),some (HB.cells [AV.row 1 0 m m] 118),some (HB.cells c3 49),some (HB.cells [I lf] 3),some (HB.cells c5 40),some (HB.cells c6 40),some (HB.cells [AV.vs l len Tok.none] 25),some (HB.cells (z0a p) 40),some (HB.cells (z0a q) 40),some (HB.cells [U 0,I 0,I 0] 42),some (HB.cells [U 0,I v,I w] 42)] [] []) (z0d 0 (z0i Tryz.X78e (cd PP 78 [1,1,1,1]) (z0s Tryz.X78e 78 Q)))) False) False)):=by kernel_rfl
theorem v1a (rl:List AV) (p q:Prf) (v w:Int) (c0 c3 c5 c6 ob:List AV) (m:Nat) (lf:Int) (Q:CR→List (Option HB)→Prop):wpC Tryz.X78e (cd PP 78 [1,1,1,1]) ([X,X,X,X,X,X,X,X,X,X,.ptr 10 0,.ptr 11 0]++List.replicate 83 X) ⟨[some (.cells c0 25),some (.cells ob 4),some (.cells [.row 1 0 m m] 118),some (.cells c3 49),some (.cells [I lf] 3),some (.cells c5 40),some (.cells c6 40),some (.cells rl 25),some (.cells (z0a p) 40),some (.cells (z0a q) 40),some (.cells [U 0,I 0,I 0] 42),some (.cells [U 0,I v,I w] 42)],[],[]⟩ (z0s Tryz.X78e 78 Q) =
 (cIf (decide (v ≥ (0:Int))) (cIf (decide (w ≥ (0:Int))) (cIf ((List.take Tryz.X78e.bs [some (HB.cells c0 25),some (HB.cells ob 4),some (HB.cells [AV.row 1 0 m m] 118),some (HB.cells c3 49),some (HB.cells [I lf] 3),some (HB.cells c5 40),some (HB.cells c6 40),some (HB.cells rl 25),some (HB.cells (z0a p) 40),some (HB.cells (z0a q) 40),some (HB.cells [U 3,I v,I w] 42),some (HB.cells [U 3,I v,I w] 42)]).all (okBlk Tryz.X78e.bs)) (Q (CR.ret (AV.agg [U 3,I v,I w])) [some (HB.cells (z0e 0 c0) 25),some (HB.cells (z0e 0 ob) 4),some (HB.cells [AV.row 1 0 m m] 118),some (HB.cells (z0e 0 c3) 49),some (HB.cells [I lf] 3),some (HB.cells (z0e 0 c5) 40),some (HB.cells (z0e 0 c6) 40)]) False) (cIf (decide (v ≥ (0:Int))) (cIf ((List.take Tryz.X78e.bs [some (HB.cells c0 25),some (HB.cells ob 4),some (HB.cells [AV.row 1 0 m m] 118),some (HB.cells c3 49),some (HB.cells [I lf] 3),some (HB.cells c5 40),some (HB.cells c6 40),some (HB.cells rl 25),some (HB.cells (z0a p) 40),some (HB.cells (z0a q) 40),some (HB.cells [U 1,I v,I w] 42),some (HB.cells [U 1,I v,I w] 42)]).all (okBlk Tryz.X78e.bs)) (Q (CR.ret (AV.agg [U 1,I v,I w])) [some (HB.cells (z0e 0 c0) 25),some (HB.cells (z0e 0 ob) 4),some (HB.cells [AV.row 1 0 m m] 118),some (HB.cells (z0e 0 c3) 49),some (HB.cells [I lf] 3),some (HB.cells (z0e 0 c5) 40),some (HB.cells (z0e 0 c6) 40)]) False) (cIf (decide (w ≥ (0:Int))) (cIf ((List.take Tryz.X78e.bs [some (HB.cells c0 25),some (HB.cells ob 4),some (HB.cells [AV.row 1 0 m m] 118),some (HB.cells c3 49),some (HB.cells [I lf] 3),some (HB.cells c5 40),some (HB.cells c6 40),some (HB.cells rl 25),some (HB.cells (z0a p) 40),some (HB.cells (z0a q) 40),some (HB.cells [U 2,I v,I w] 42),some (HB.cells [U 2,I v,I w] 42)]).all (okBlk Tryz.X78e.bs)) (Q (CR.ret (AV.agg [U 2,I v,I w])) [some (HB.cells (z0e 0 c0) 25),some (HB.cells (z0e 0 ob) 4),some (HB.cells [AV.row 1 0 m m] 118),some (HB.cells (z0e 0 c3) 49),some (HB.cells [I lf] 3),some (HB.cells (z0e 0 c5) 40),some (HB.cells (z0e 0 c6) 40)]) False) (cIf ((List.take Tryz.X78e.bs [some (HB.cells c0 25),some (HB.cells ob 4),some (HB.cells [AV.row 1 0 m m] 118),some (HB.cells c3 49),some (HB.cells [I lf] 3),some (HB.cells c5 40),some (HB.cells c6 40),some (HB.cells rl 25),some (HB.cells (z0a p) 40),some (HB.cells (z0a q) 40),some (HB.cells [U 0,I v,I w] 42),some (HB.cells [U 0,I v,I w] 42)]).all (okBlk Tryz.X78e.bs)) (Q (CR.ret (AV.agg [U 0,I v,I w])) [some (HB.cells (z0e 0 c0) 25),some (HB.cells (z0e 0 ob) 4),some (HB.cells [AV.row 1 0 m m] 118),some (HB.cells (z0e 0 c3) 49),some (HB.cells [I lf] 3),some (HB.cells (z0e 0 c5) 40),some (HB.cells (z0e 0 c6) 40)]) False)))) (cIf (decide (v ≥ (0:Int))) (cIf ((List.take Tryz.X78e.bs [some (HB.cells c0 25),some (HB.cells ob 4),some (HB.cells [AV.row 1 0 m m] 118),some (HB.cells c3 49),some (HB.cells [I lf] 3),some (HB.cells c5 40),some (HB.cells c6 40),some (HB.cells rl 25),some (HB.cells (z0a p) 40),some (HB.cells (z0a q) 40),some (HB.cells [U 1,I v,I w] 42),some (HB.cells [U 1,I v,I w] 42)]).all (okBlk Tryz.X78e.bs)) (Q (CR.ret (AV.agg [U 1,I v,I w])) [some (HB.cells (z0e 0 c0) 25),some (HB.cells (z0e 0 ob) 4),some (HB.cells [AV.row 1 0 m m] 118),some (HB.cells (z0e 0 c3) 49),some (HB.cells [I lf] 3),some (HB.cells (z0e 0 c5) 40),some (HB.cells (z0e 0 c6) 40)]) False) (cIf (decide (w ≥ (0:Int))) (cIf ((List.take Tryz.X78e.bs [some (HB.cells c0 25),some (HB.cells ob 4),some (HB.cells [AV.row 1 0 m m] 118),some (HB.cells c3 49),some (HB.cells [I lf] 3),some (HB.cells c5 40),some (HB.cells c6 40),some (HB.cells rl 25),some (HB.cells (z0a p) 40),some (HB.cells (z0a q) 40),some (HB.cells [U 2,I v,I w] 42),some (HB.cells [U 2,I v,I w] 42)]).all (okBlk Tryz.X78e.bs)) (Q (CR.ret (AV.agg [U 2,I v,I w])) [some (HB.cells (z0e 0 c0) 25),some (HB.cells (z0e 0 ob) 4),some (HB.cells [AV.row 1 0 m m] 118),some (HB.cells (z0e 0 c3) 49),some (HB.cells [I lf] 3),some (HB.cells (z0e 0 c5) 40),some (HB.cells (z0e 0 c6) 40)]) False) (cIf ((List.take Tryz.X78e.bs [some (HB.cells c0 25),some (HB.cells ob 4),some (HB.cells [AV.row 1 0 m m] 118),some (HB.cells c3 49),some (HB.cells [I lf] 3),some (HB.cells c5 40),some (HB.cells c6 40),some (HB.cells rl 25),some (HB.cells (z0a p) 40),some (HB.cells (z0a q) 40),some (HB.cells [U 0,I v,I w] 42),some (HB.cells [U 0,I v,I w] 42)]).all (okBlk Tryz.X78e.bs)) (Q (CR.ret (AV.agg [U 0,I v,I w])) [some (HB.cells (z0e 0 c0) 25),some (HB.cells (z0e 0 ob) 4),some (HB.cells [AV.row 1 0 m m] 118),some (HB.cells (z0e 0 c3) 49),some (HB.cells [I lf] 3),some (HB.cells (z0e 0 c5) 40),some (HB.cells (z0e 0 c6) 40)]) False)))):=by kernel_rfl
end Go.Proofs
set_option maxRecDepth 100000
set_option linter.unusedVariables false
namespace Go.Proofs
open Go Go.Ev
theorem x1d:∀ a b:List Bool,z07 a = z07 b→a = b:=by
 intro a b h
 have:=congrArg (List.map AV.toBool) h
 simpa [z07,Function.comp_def,AV.toBool] using this
theorem y3e (l:List Bool):z0e 0 (z07 l) = z07 l:=by
 induction l with
 | nil=>rfl
 | cons a l ih=>show z0e 0 (AV.bool a :: z07 l) = _; rw [z0e,ih]; rfl
theorem w06 (o:List Bool) (lf i:Int):mkO (z07 o) lf i = z4g (o,lf) i.toNat:=by unfold mkO; rw [z0j x1d]
theorem x4u:∀ (l:List Bool) (i:Nat),l.getD i false = false→i < l.length→((l.set i true).count false:Int) = (l.count false:Int) - 1
 | [],i,_,h=>by simp at h
 | a :: l,0,h,_=>by
  simp at h
  subst h
  simp [List.count_cons]
 | a :: l,i + 1,h,hl=>by
  have ih:=x4u l i (by simpa using h) (by simpa using hl)
  simp only [List.set_cons_succ,List.count_cons]
  push_cast
  omega
theorem GoodA.mark {m:Nat} {s:List Bool × Int} (h:GoodA m s) {i:Nat} (hi:i < m):GoodA m (z4g s i):=by
 unfold z4g
 split
 ·exact h
 ·rename_i hn
  exact ⟨by simp [h.1],h.2.1,by rw [x4u _ _ (by simpa using hn) (by rw [h.1]; exact hi),h.2.2]⟩
theorem GoodA.bd {m:Nat} {s:List Bool × Int} (h:GoodA m s):0 ≤ s.2∧s.2 ≤ 1000:=by
 have:=List.count_le_length (a:=false) (l:=s.1)
 have h1:=h.1
 have h2:=h.2.1
 have h3:=h.2.2
 omega
theorem w01 (p:Prf):z2p (z0a p):=⟨fun n=>z04 n p,z2u p⟩
theorem ct128:CtP Tryz.B.c0 128 7 R128:=⟨⟨_,_,Tryz.func128,rfl⟩,fun args hs D r hs' hR hD hl=>by
 unfold R128 at hR
 split at hR <;> cases hR
 rename_i i c0 ob m m' c3 lf c5 c6
 obtain ⟨o,rfl,rfl,rfl,h1,h2,h3,h4,h5,⟨a0,b0⟩,⟨a3,b3⟩,⟨a5,b5⟩,a6,b6⟩:=hD
 obtain ⟨k,rfl⟩:∃ k:Nat,i = k:=⟨i.toNat,by omega⟩
 have hk:k < o.length:=by omega
 rw [show z0e 0 [AV.int .i64 (k:Int),.ptr 2 0,.ptr 4 0] = [I k,.ptr 2 0,.ptr 4 0] from rfl,w06]
 rw [show List.map (Option.map (z06 0)) [some (HB.cells c0 25),some (HB.cells (z07 o) 4),some (HB.cells [AV.row 1 0 o.length o.length] 118),some (HB.cells c3 49),some (HB.cells [AV.int IntKind.i64 lf] 3),some (HB.cells c5 40),some (HB.cells c6 40)] = [some (HB.cells c0 25),some (HB.cells (z07 o) 4),some (HB.cells [AV.row 1 0 o.length o.length] 118),some (HB.cells c3 49),some (HB.cells [AV.int IntKind.i64 lf] 3),some (HB.cells c5 40),some (HB.cells c6 40)] by
  simp [z06,z0e,scrub,y3e,b0,b3,b5,b6]]
 refine z4p (B:=Tryz.B) (nb:=7) (l:=[]) (lm:=[]) (tp:=[1]) (ct:=[]) (sm:=[]) Tryz.bok (Cts.nil _) rfl ((v0n (k:Int) c0 c3 c5 c6 (z07 o) o.length lf _).mpr ?_)
 rw [Int.toNat_natCast,show 0 + k * 1 = k by omega]
 refine z0b (z0z _) (z0b (decide_eq_true hk) (z0b (decide_eq_true (by rw [z8n]; exact hk)) (z0b (y7z o k hk) ?_)))
 rw [x1q o k hk]
 refine z0h (fun h=>?_) (fun h=>?_)
 ·have h:¬ o.getD k false = true:=by simpa using h
  refine z0b (z0z _) (z0b (decide_eq_true hk) (z0b (decide_eq_true (by rw [z8n]; omega)) ?_))
  rw [x1c o k true hk,z09 (x:=lf - 1) (by omega) (by omega),y3e,b0,b3,b5,b6]
  unfold z4g
  rw [if_neg h]
  exact z0b (by simp [show Tryz.X128.bs = 7 from rfl,okBlk,noHB,noHL,noH,z5c,a0,a3,a5,a6]) ⟨rfl,rfl⟩
 ·have h:o.getD k false = true:=by simpa using h
  rw [y3e,b0,b3,b5,b6]
  unfold z4g
  rw [if_pos h]
  exact z0b (by simp [show Tryz.X128.bs = 7 from rfl,okBlk,noHB,noHL,noH,z5c,a0,a3,a5,a6]) ⟨rfl,rfl⟩⟩
theorem z9j:BaseOk Tryz.B128:=Tryz.bok.hk (ct128.hook Tryz.gtpB)
theorem y3f:Cts Tryz.B128 [(80,R80)]:=(Cts.nil _).cons x9w
abbrev y76 (c0 c3 c5 c6:List AV) (m:Nat) (s:List Bool × Int):List (Option HB):=[some (.cells c0 25),some (.cells (z07 s.1) 4),some (.cells [.row 1 0 m m] 118),some (.cells c3 49),some (.cells [I s.2] 3),some (.cells c5 40),some (.cells c6 40)]
abbrev hsW (c0 c3 c5 c6:List AV) (m:Nat) (s:List Bool × Int) (rs:List Rul) (p q:Prf) (v w:Int):List (Option HB):=[some (.cells c0 25),some (.cells (z07 s.1) 4),some (.cells [.row 1 0 m m] 118),some (.cells c3 49),some (.cells [I s.2] 3),some (.cells c5 40),some (.cells c6 40),some (.cells [.vs (z0c rs) rs.length .none] 25),some (.cells (z0a p) 40),some (.cells (z0a q) 40),some (.cells [U 0,I 0,I 0] 42),some (.cells [U 0,I v,I w] 42)]
abbrev x0o:AV:=.fn (.func 128) [] [.ptr 2 0,.ptr 4 0]
section
variable {c0 c3 c5 c6:List AV} (g0:z2p c0) (g3:z2p c3) (g5:z2p c5) (g6:z2p c6) {rs:List Rul} (hrs:z1j rs) (hsh:∀ x ∈ rs,shT x.t = true) {p q:Prf} {ord:List Nat} (hol:ord.length ≤ 24) (hom:∀ x ∈ ord,x < rs.length) {Q:CR→List (Option HB)→Prop}
include g0 g3 g5 g6
theorem z97 (m:Nat) (s:List Bool × Int) (rs:List Rul) (p q:Prf) (v w:Int) {k:Nat} (hk:7 ≤ k):(hsW c0 c3 c5 c6 m s rs p q v w).all (okBlk k) = true:=by
 simp [okBlk,noHB,noHL,noH,z0t,z04,z5c,g0.1,g3.1,g5.1,g6.1]
 omega
theorem w2f (m:Nat) (s:List Bool × Int) (rs:List Rul) (p q:Prf) (v w:Int) (x:Rul):(hsW c0 c3 c5 c6 m s rs p q v w++[some (HB.cells (z1d x) 73)]).all (okBlk 13) = true:=by
 simp [okBlk,noHB,noHL,noH,z0t,z04,z5c,g0.1,g3.1,g5.1,g6.1,z7c]
theorem x6d (m:Nat) (s:List Bool × Int):(y76 c0 c3 c5 c6 m s).all (z1i 7) = true:=by
 simp [z1i,noHB,noHL,noH,z5c,g0.1,g3.1,g5.1,g6.1]
theorem w49 (m:Nat) (s:List Bool × Int):(y76 c0 c3 c5 c6 m s).all (okBlk 7) = true:=by
 simp [okBlk,noHB,noHL,noH,z5c,g0.1,g3.1,g5.1,g6.1]
theorem w3x (m:Nat) (s:List Bool × Int) (v w:Int) (hQ:Q (.ret (.agg [U (z01 v w),I v,I w])) (y76 c0 c3 c5 c6 m s)) :
  z0k Tryz.X78e (cd PP 78 [1,1,1,1]) ([X,X,X,X,X,X,X,X,X,X,.ptr 10 0,.ptr 11 0]++List.replicate 83 X) ⟨hsW c0 c3 c5 c6 m s rs p q v w,[],[]⟩ (z0s Tryz.X78e 78 Q):=by
 refine z3n (C:=Tryz.X78e) (z00 z9j y3f) (z1c z9j y3f) ((v1a [.vs (z0c rs) rs.length .none] p q v w c0 c3 c5 c6 (z07 s.1) m s.2 Q).mpr ?_)
 rw [y3e,g0.2,g3.2,g5.2,g6.2]
 have hb:∀ r:List (Option HB),(List.take Tryz.X78e.bs (y76 c0 c3 c5 c6 m s++r)).all (okBlk Tryz.X78e.bs) = true:=fun r=>w49 g0 g3 g5 g6 m s
 unfold z01 at hQ
 refine z0h (fun h=>z0h (fun h2=>?_) (fun h2=>z0b h ?_)) (fun h=>z0p h (z0h (fun h2=>?_) (fun h2=>?_)))
 ·rw [if_pos ⟨of_decide_eq_true h,of_decide_eq_true h2⟩] at hQ; exact z0b (hb _) hQ
 ·have h:=of_decide_eq_true h
  have h2:=of_decide_eq_false h2
  rw [if_neg (fun x=>h2 x.2),if_pos h] at hQ; exact z0b (hb _) hQ
 ·have h:=of_decide_eq_false h
  have h2:=of_decide_eq_true h2
  rw [if_neg (fun x=>h x.1),if_neg h,if_pos h2] at hQ; exact z0b (hb _) hQ
 ·have h:=of_decide_eq_false h
  have h2:=of_decide_eq_false h2
  rw [if_neg (fun x=>h x.1),if_neg h,if_neg h2] at hQ; exact z0b (hb _) hQ
include hrs hsh hol hom
theorem w7x:∀ (d i:Nat) (v w r:Int) (s:List Bool × Int),ord.length - i = d→i ≤ ord.length→GoodA rs.length s →
  Q (.ret (.agg [U (z01 (z2g (rkR rs) (thR rs p q) (thR rs q p) (ord.drop i) v w r).1 (z2g (rkR rs) (thR rs p q) (thR rs q p) (ord.drop i) v w r).2),I (z2g (rkR rs) (thR rs p q) (thR rs q p) (ord.drop i) v w r).1,I (z2g (rkR rs) (thR rs p q) (thR rs q p) (ord.drop i) v w r).2])) (y76 c0 c3 c5 c6 rs.length ((z8e (rkR rs) (thR rs p q) (thR rs q p) (ord.drop i) r).foldl z4g s)) →
  z0l Tryz.X78e (cd PP 78 [1,1,1,0,1,0,0]) ([X,X,X,X,x0o,.ptr 7 0,X,.ptr 8 0,.ptr 9 0,X,.ptr 10 0,.ptr 11 0,I r,X,X,X,X,X,X,.vs (encD ord) ord.length .none,I ord.length,I i]++List.replicate 73 X) ⟨hsW c0 c3 c5 c6 rs.length s rs p q v w,[],[]⟩ (z0d 0 (z0i Tryz.X78e (cd PP 78 [1,1,1,1]) (z0s Tryz.X78e 78 Q))):=by
 intro d
 induction d with
 | zero =>
  intro i v w r s hd hi hs hQ
  have hi':i = ord.length:=by omega
  subst hi'
  rw [List.drop_length] at hQ
  refine z0n (C:=Tryz.X78e) (z00 z9j y3f) (z1c z9j y3f) ((w7y (z0c rs) (encD ord) rs.length ord.length p q v w r (ord.length:Nat) c0 c3 c5 c6 (z07 s.1) rs.length s.2 Q).mpr ?_)
  exact z0p (decide_eq_false (by omega)) (z0b (z97 g0 g3 g5 g6 rs.length s rs p q v w (by omega)) (w3x g0 g3 g5 g6 rs.length s v w hQ))
 | succ d ih =>
  intro i v w r s hd hi hs hQ
  have hlt:i < ord.length:=by omega
  obtain ⟨j,hj,hdr⟩:=z1p hlt
  rw [hdr] at hQ
  have hg:gN ord i = j:=by simp [gN,List.getD_eq_getElem?_getD,hj]
  have hjl:j < rs.length:=hom j (List.mem_of_getElem? hj)
  obtain ⟨x,hx⟩:∃ x,rs[j]? = some x:=⟨_,List.getElem?_eq_getElem hjl⟩
  have hxm:=List.mem_of_getElem? hx
  have hrk:rkR rs j = x.rank:=by simp only [rkR,hx]
  have hth:thR rs p q j = hoT x.t p q:=by simp only [thR,hx]
  have hbk:thR rs q p j = hoT x.t q p:=by simp only [thR,hx]
  have henv:∀ (a b c e f:AV) (k:AV),noHL 13 [a,b,c,e,f,k] = true→noHL 13 ([X,X,X,X,x0o,.ptr 7 0,X,.ptr 8 0,.ptr 9 0,X,.ptr 10 0,.ptr 11 0,a,X,b,c,e,f,X,.vs (encD ord) ord.length .none,I ord.length,k]++List.replicate 73 X) = true:=fun a b c e f k h=>by
   simp only [noHL,Bool.and_eq_true] at h
   refine z6j ?_ (z2e 13 73)
   simp [noHL,noH,z1t,h]
  have henv5:∀ (a b c e f:AV) (k:AV),noHL 12 [a,b,c,e,f,k] = true→noHL 12 ([X,X,X,X,x0o,.ptr 7 0,X,.ptr 8 0,.ptr 9 0,X,.ptr 10 0,.ptr 11 0,a,X,b,c,e,f,X,.vs (encD ord) ord.length .none,I ord.length,k]++List.replicate 73 X) = true:=fun a b c e f k h=>by
   simp only [noHL,Bool.and_eq_true] at h
   refine z6j ?_ (z2e 12 73)
   simp [noHL,noH,z1t,h]
  simp only [z2g,z8e] at hQ
  rw [hrk,hth,hbk] at hQ
  refine z0n (C:=Tryz.X78e) (z00 z9j y3f) (z1c z9j y3f) ((w7y (z0c rs) (encD ord) rs.length ord.length p q v w r (i:Nat) c0 c3 c5 c6 (z07 s.1) rs.length s.2 Q).mpr ?_)
  rw [y1d hlt,hg,Int.toNat_natCast j,z4u hx,y2s,y1q]
  refine z0b (decide_eq_true (by omega)) (z0b (z0z _) (z0b (row_in hlt) (z0b (decide_eq_true (by rw [z4v]; omega)) (z0b (z86 hlt) (z0b (y1c hlt) (z0b (z0z _) (z0b (decide_eq_true hjl) (z0b (decide_eq_true (z02 rs).symm) (z0b (decide_eq_true (z03 (z02 rs) hjl)) (z0b (z4s x) ?_))))))))))
  refine z0h (fun hb=>?_) (fun hb=>?_)
  ·have hb:r > x.rank:=of_decide_eq_true hb
   rw [if_pos hb,if_pos hb] at hQ
   exact z0b (z97 g0 g3 g5 g6 rs.length s rs p q v w (by omega)) (w3x g0 g3 g5 g6 rs.length s v w hQ)
  ·have hb:¬ r > x.rank:=of_decide_eq_false hb
   rw [if_neg hb,if_neg hb] at hQ
   have hht:∀ a b:Prf,z0g z0m (fun t=>z0g z0a (fun a=>z0g z0a (fun b=>hoT t a b) false (z0a b)) false (z0a a)) false (z0m x.t) = hoT x.t a b:=fun a b=>by
    rw [z0j (fun _ _=>z1a _ _),z0j z0w,z0j z0w]
   rw [hht,hht]
   refine z0b (by simp [noHL,noH,z1k,z04]) ⟨⟨⟨x.t,rfl,(hrs.1.2 x hxm).1,hsh x hxm⟩,⟨p,rfl⟩,q,rfl⟩,rfl,z0b (by simp [noHL,noH,z1k,z04]) ⟨⟨⟨x.t,rfl,(hrs.1.2 x hxm).1,hsh x hxm⟩,⟨q,rfl⟩,p,rfl⟩,rfl,z0b (henv _ _ _ _ _ _ rfl) (z0b (w2f g0 g3 g5 g6 rs.length s rs p q v w x) ?_)⟩⟩
   refine z3n (C:=Tryz.X78e) (z00 z9j y3f) (z1c z9j y3f) ((v1d (z0c rs) (encD ord) rs.length ord.length p q x (hoT x.t p q) (hoT x.t q p) v w r (i:Nat) (j:Nat) c0 c3 c5 c6 (z07 s.1) rs.length s.2 Q).mpr ?_)
   rw [wA1 (a:=i) (by omega),w06,Int.toNat_natCast]
   have cont:∀ (v' w' r':Int) (s':List Bool × Int),GoodA rs.length s'→Q (.ret (.agg [U (z01 (z2g (rkR rs) (thR rs p q) (thR rs q p) (ord.drop (i + 1)) v' w' r').1 (z2g (rkR rs) (thR rs p q) (thR rs q p) (ord.drop (i + 1)) v' w' r').2),I (z2g (rkR rs) (thR rs p q) (thR rs q p) (ord.drop (i + 1)) v' w' r').1,I (z2g (rkR rs) (thR rs p q) (thR rs q p) (ord.drop (i + 1)) v' w' r').2])) (y76 c0 c3 c5 c6 rs.length ((z8e (rkR rs) (thR rs p q) (thR rs q p) (ord.drop (i + 1)) r').foldl z4g s'))→_:=fun v' w' r' s' hs' h=>ih (i + 1) v' w' r' s' (by omega) (by omega) hs' h
   have hm:=hs.mark hjl
   have two:Q (.ret (.agg [U (z01 (z2g (rkR rs) (thR rs p q) (thR rs q p) (ord.drop (i + 1)) (if (hoT x.t p q && decide (v < 0)) = true then (j:Int) else v) (if (hoT x.t q p && decide (w < 0)) = true then (j:Int) else w) x.rank).1 (z2g (rkR rs) (thR rs p q) (thR rs q p) (ord.drop (i + 1)) (if (hoT x.t p q && decide (v < 0)) = true then (j:Int) else v) (if (hoT x.t q p && decide (w < 0)) = true then (j:Int) else w) x.rank).2),I (z2g (rkR rs) (thR rs p q) (thR rs q p) (ord.drop (i + 1)) (if (hoT x.t p q && decide (v < 0)) = true then (j:Int) else v) (if (hoT x.t q p && decide (w < 0)) = true then (j:Int) else w) x.rank).1,I (z2g (rkR rs) (thR rs p q) (thR rs q p) (ord.drop (i + 1)) (if (hoT x.t p q && decide (v < 0)) = true then (j:Int) else v) (if (hoT x.t q p && decide (w < 0)) = true then (j:Int) else w) x.rank).2])) (y76 c0 c3 c5 c6 rs.length ((j :: z8e (rkR rs) (thR rs p q) (thR rs q p) (ord.drop (i + 1)) x.rank).foldl z4g s)) →
     z0k Tryz.X78e (cd PP 78 [1,1,1,0,1,0,0,1,1,0,0,1,1,1,1,1,1,1]) ([X,X,X,X,x0o,.ptr 7 0,X,.ptr 8 0,.ptr 9 0,X,.ptr 10 0,.ptr 11 0,I x.rank,X,I j,X,Bo (hoT x.t p q),Bo (hoT x.t q p),X,.vs (encD ord) ord.length .none,I ord.length,I i]++List.replicate 73 X) ⟨hsW c0 c3 c5 c6 rs.length (z4g s j) rs p q v w,[],[]⟩ (z0d 1 (z0i Tryz.X78e (cd PP 78 [1,1,1,0,1,0,0,1,1,1]) (z0r Tryz.X78e (cd PP 78 [1,1,1,0,1,0,0]) (z0d 0 (z0i Tryz.X78e (cd PP 78 [1,1,1,1]) (z0s Tryz.X78e 78 Q)))))):=by
    intro h
    rw [List.foldl_cons] at h
    have step:∀ v':Int,v' = (if (hoT x.t p q && decide (v < 0)) = true then (j:Int) else v) →
      z0k Tryz.X78e (cd PP 78 [1,1,1,0,1,0,0,1,1,0,0,1,1,1,1,1,1,1,1]) ([X,X,X,X,x0o,.ptr 7 0,X,.ptr 8 0,.ptr 9 0,X,.ptr 10 0,.ptr 11 0,I x.rank,X,I j,X,X,Bo (hoT x.t q p),X,.vs (encD ord) ord.length .none,I ord.length,I i]++List.replicate 73 X) ⟨hsW c0 c3 c5 c6 rs.length (z4g s j) rs p q v' w,[],[]⟩ (z0d 1 (z0i Tryz.X78e (cd PP 78 [1,1,1,0,1,0,0,1,1,1]) (z0r Tryz.X78e (cd PP 78 [1,1,1,0,1,0,0]) (z0d 0 (z0i Tryz.X78e (cd PP 78 [1,1,1,1]) (z0s Tryz.X78e 78 Q)))))):=by
     intro v' hv'
     rw [← hv'] at h
     refine z3n (C:=Tryz.X78e) (z00 z9j y3f) (z1c z9j y3f) ((v1b (z0c rs) (encD ord) rs.length ord.length p q (hoT x.t q p) v' w x.rank (i:Nat) (j:Nat) c0 c3 c5 c6 (z07 (z4g s j).1) rs.length (z4g s j).2 Q).mpr ?_)
     rw [wA1 (a:=i) (by omega)]
     refine z0h (fun h1=>z0h (fun h2=>?_) (fun h2=>?_)) (fun h1=>?_)
     ·rw [if_pos (by rw [h1,h2]; rfl)] at h
      exact z0b (henv5 _ _ _ _ _ _ rfl) (z0b (z97 g0 g3 g5 g6 rs.length (z4g s j) rs p q v' j (by omega)) (cont _ _ _ _ hm h))
     ·rw [if_neg (by rw [h1,h2]; simp)] at h
      exact z0b (henv5 _ _ _ _ _ _ rfl) (z0b (z97 g0 g3 g5 g6 rs.length (z4g s j) rs p q v' w (by omega)) (cont _ _ _ _ hm h))
     ·rw [if_neg (by rw [h1]; simp)] at h
      exact z0b (henv5 _ _ _ _ _ _ rfl) (z0b (z97 g0 g3 g5 g6 rs.length (z4g s j) rs p q v' w (by omega)) (cont _ _ _ _ hm h))
    refine z3n (C:=Tryz.X78e) (z00 z9j y3f) (z1c z9j y3f) ((v1c (z0c rs) (encD ord) rs.length ord.length p q (hoT x.t p q) (hoT x.t q p) v w x.rank (i:Nat) (j:Nat) c0 c3 c5 c6 (z07 (z4g s j).1) rs.length (z4g s j).2 Q).mpr ?_)
    refine z0h (fun h1=>z0h (fun h2=>?_) (fun h2=>?_)) (fun h1=>?_)
    ·exact z0b (henv5 _ _ _ _ _ _ rfl) (z0b (z97 g0 g3 g5 g6 rs.length (z4g s j) rs p q j w (by omega)) (step j (by rw [if_pos (by rw [h1,h2]; rfl)])))
    ·exact z0b (henv5 _ _ _ _ _ _ rfl) (z0b (z97 g0 g3 g5 g6 rs.length (z4g s j) rs p q v w (by omega)) (step v (by rw [if_neg (by rw [h1,h2]; simp)])))
    ·exact z0b (henv5 _ _ _ _ _ _ rfl) (z0b (z97 g0 g3 g5 g6 rs.length (z4g s j) rs p q v w (by omega)) (step v (by rw [if_neg (by rw [h1]; simp)])))
   have hD:(∃ (o:List Bool),z07 s.1 = z07 o∧rs.length = o.length∧rs.length = rs.length∧(0:Int) ≤ (j:Int)∧(j:Int) < (rs.length:Int)∧rs.length ≤ 1000∧(0:Int) ≤ s.2∧s.2 ≤ (1000:Int)∧z2p c0∧z2p c3∧z2p c5∧z2p c6):=⟨s.1,rfl,hs.1.symm,rfl,by omega,by omega,hs.2.1,hs.bd.1,hs.bd.2,g0,g3,g5,g6⟩
   refine z0h (fun h1=>z0h (fun h2=>?_) (fun h2=>?_)) (fun h1=>?_)
   ·rw [if_pos (by rw [h1,h2]; rfl),if_pos (by rw [h1,h2]; rfl)] at hQ
    exact z0b (henv5 _ _ _ _ _ _ rfl) (z0b (z97 g0 g3 g5 g6 rs.length s rs p q v w (by omega)) (cont _ _ _ _ hs hQ))
   ·have hn:¬ (!hoT x.t p q && !hoT x.t q p) = true:=by rw [h1,h2]; simp
    rw [if_neg hn,if_neg hn] at hQ
    exact ⟨hD,⟨rfl,x6d g0 g3 g5 g6 rs.length s,rfl,by simp⟩,z0b (henv5 _ _ _ _ _ _ rfl) (z0b (z97 g0 g3 g5 g6 rs.length (z4g s j) rs p q v w (by omega)) (two hQ))⟩
   ·have hn:¬ (!hoT x.t p q && !hoT x.t q p) = true:=by rw [h1]; simp
    rw [if_neg hn,if_neg hn] at hQ
    exact ⟨hD,⟨rfl,x6d g0 g3 g5 g6 rs.length s,rfl,by simp⟩,z0b (henv5 _ _ _ _ _ _ rfl) (z0b (z97 g0 g3 g5 g6 rs.length (z4g s j) rs p q v w (by omega)) (two hQ))⟩
end
end Go.Proofs
set_option maxRecDepth 100000
set_option linter.unusedVariables false
-- elP C19
namespace Go.Proofs
open Go Go.Ev
def decides (rs:List Rul) (x:Prf × Prf):List Nat:=z8e (rkR rs) (thR rs x.1 x.2) (thR rs x.2 x.1) (z05 rs) 0
def z2l (rs:List Rul):List Bool:=(List.range rs.length).map fun i=>csL.any fun x=>(decides rs x).contains i
noncomputable def R89:Spc:=fun args=>match args with
 | [.agg [.vs l len .none]]=>some (y4h l len,.ret (.vs (z07 (z0g z0c z2l [] l)) len .none))
 | _=>none
noncomputable def Tryz.X89:WCx:=Tryz.B.wcx [(79,R79),(85,R85)]
noncomputable def Tryz.B78e:Base:=Tryz.B.hk 78 (z3c 7 R78e)
noncomputable def Tryz.X89r:WCx:=Tryz.B78e.wcxP 5 []
theorem v0f (l:List AV) (len:Nat) (k:Kont):wpC Tryz.X89 (cd PP 89 [0]) ([.agg [.vs l len .none]]++List.replicate 27 X) ⟨[],[],[]⟩ k =
 (k EX.normal ([AV.agg [AV.vs l len Tok.none],AV.ptr 0 0,AV.vs [] 0 Tok.zero]++List.replicate 25 X) (St.mk [some (HB.cells [AV.vs l len Tok.none] 25)] [] [])):=by kernel_rfl
theorem v0e (l:List AV) (len:Nat) (k:Kont):wpC Tryz.X89 (cd PP 89 [1,0]) ([X,.ptr 0 0]++List.replicate 26 X) ⟨[some (.cells [.vs l len .none] 25)],[],[]⟩ k =
 (cIf (decide ((↑len:Int) ≤ (↑len:Int))) (cIf (decide ((↑len:Int) * (↑1:Int) ≤ (140737488355328:Int))) (cIf (decide ((↑len:Int) ≤ (140737488355328:Int))) (k EX.normal ([X,AV.ptr 0 0,X,AV.ptr 2 0,X,X,X,X,AV.ptr 0 0,AV.vs l len Tok.none,I len,AV.row 1 0 len len]++List.replicate 16 X) (St.mk [some (HB.cells [AV.vs l len Tok.none] 25),some (HB.cells (z2o (List.map AV.ofVal (Value.bool false).cells.toList) len) 4),some (HB.cells [AV.row 1 0 len len] 118)] [] [2])) False) False) False):=by kernel_rfl
theorem v0d (l ob:List AV) (len m:Nat) (k:Kont):wpC Tryz.X89 (cd PP 89 [1,1,0]) ([X,.ptr 0 0,X,.ptr 2 0]++List.replicate 24 X) ⟨[some (.cells [.vs l len .none] 25),some (.cells ob 4),some (.cells [.row 1 0 m m] 118)],[],[]⟩ k =
 ((∃ (rs:List Rul),l = z0c rs∧len = rs.length∧z1j rs)∧k EX.normal ([X,AV.ptr 0 0,X,AV.ptr 2 0,AV.ptr 3 0,X,X,X,X,X,X,X,AV.agg [AV.vs l len Tok.none],AV.vs (encD (z0g z0c z05 [] l)) len Tok.none]++List.replicate 14 X) (St.mk [some (HB.cells [AV.vs l len Tok.none] 25),some (HB.cells ob 4),some (HB.cells [AV.row 1 0 m m] 118),some (HB.cells [AV.vs (encD (z0g z0c z05 [] l)) len Tok.none] 49)] [] [3])):=by kernel_rfl
theorem v0c (l cs ob:List AV) (len n m:Nat) (k:Kont):wpC Tryz.X89 (cd PP 89 [1,1,1,0]) ([X,.ptr 0 0,X,.ptr 2 0,.ptr 3 0]++List.replicate 23 X) ⟨[some (.cells [.vs l len .none] 25),some (.cells ob 4),some (.cells [.row 1 0 m m] 118),some (.cells [.vs cs n .none] 49)],[],[]⟩ k =
 (k EX.normal ([X,AV.ptr 0 0,X,AV.ptr 2 0,AV.ptr 3 0,AV.ptr 4 0,X,X,X,X,X,X,X,X,AV.row 1 0 m m,I m]++List.replicate 12 X) (St.mk [some (HB.cells [AV.vs l len Tok.none] 25),some (HB.cells ob 4),some (HB.cells [AV.row 1 0 m m] 118),some (HB.cells [AV.vs cs n Tok.none] 49),some (HB.cells [I m] 3)] [] [4])):=by kernel_rfl
theorem w99 (l cs ob:List AV) (len n m:Nat) (lf:Int) (k:Kont):wpC Tryz.X89 (cd PP 89 [1,1,1,1,0,0]) ([X,.ptr 0 0,X,.ptr 2 0,.ptr 3 0,.ptr 4 0]++List.replicate 22 X) ⟨[some (.cells [.vs l len .none] 25),some (.cells ob 4),some (.cells [.row 1 0 m m] 118),some (.cells [.vs cs n .none] 49),some (.cells [I lf] 3)],[],[]⟩ k =
 (True∧k EX.normal ([X,AV.ptr 0 0,X,AV.ptr 2 0,AV.ptr 3 0,AV.ptr 4 0,X,X,X,X,X,X,X,X,X,X,AV.fn (Fn.func 127) [] []]++List.replicate 11 X) (St.mk [some (HB.cells [AV.vs l len Tok.none] 25),some (HB.cells ob 4),some (HB.cells [AV.row 1 0 m m] 118),some (HB.cells [AV.vs cs n Tok.none] 49),some (HB.cells [I lf] 3)] [] [])):=by kernel_rfl
theorem v0b (l cs ob:List AV) (len n m:Nat) (lf:Int) (p q:Prf) (k:Kont):wpC Tryz.X89r (cd PP 89 [1,1,1,1,0,1,0,0]) ([X,.ptr 0 0,X,.ptr 2 0,.ptr 3 0,.ptr 4 0,X,X,X,X,X,X,X,X,X,X,.fn (.func 127) [] [],.agg (z0a p),.agg (z0a q)]++List.replicate 9 X) ⟨[some (.cells [.vs l len .none] 25),some (.cells ob 4),some (.cells [.row 1 0 m m] 118),some (.cells [.vs cs n .none] 49),some (.cells [I lf] 3)],[],[]⟩ k =
 (k EX.normal ([X,AV.ptr 0 0,X,AV.ptr 2 0,AV.ptr 3 0,AV.ptr 4 0,AV.ptr 5 0,AV.ptr 6 0,X,X,X,X,X,X,X,X,AV.fn (Fn.func 127) [] [],AV.agg (z0a p),AV.agg (z0a q)]++List.replicate 9 X) (St.mk [some (HB.cells [AV.vs l len Tok.none] 25),some (HB.cells ob 4),some (HB.cells [AV.row 1 0 m m] 118),some (HB.cells [AV.vs cs n Tok.none] 49),some (HB.cells [I lf] 3),some (HB.cells (z0a p) 40),some (HB.cells (z0a q) 40)] [] [6,5])):=by kernel_rfl
theorem v0a (l cs ob:List AV) (len n m:Nat) (lf:Int) (p q:Prf) (k:Kont):wpC Tryz.X89r (cd PP 89 [1,1,1,1,0,1,0,1]) ([X,.ptr 0 0,X,.ptr 2 0,.ptr 3 0,.ptr 4 0,.ptr 5 0,.ptr 6 0,X,X,X,X,X,X,X,X,.fn (.func 127) [] [],.agg (z0a p),.agg (z0a q)]++List.replicate 9 X) ⟨[some (.cells [.vs l len .none] 25),some (.cells ob 4),some (.cells [.row 1 0 m m] 118),some (.cells [.vs cs n .none] 49),some (.cells [I lf] 3),some (.cells (z0a p) 40),some (.cells (z0a q) 40)],[],[6,5]⟩ k =
 ((((∃ (rs:List Rul),∃ (ord:List Nat),l = z0c rs∧len = rs.length∧z1j rs∧(∀ (x:Rul),x ∈ rs→shT x.t = true)∧cs = encD ord∧n = ord.length∧ord.length ≤ 24∧(∀ (x:Nat),x ∈ ord→x < rs.length)∧m = rs.length)∧(∃ (p_1:Prf),(z0a p) = z0a p_1)∧∃ (q_1:Prf),(z0a q) = z0a q_1)∧(∃ (o:List Bool),ob = z07 o∧m = m∧GoodA m (o,lf))∧z2p [AV.vs l len Tok.none]∧z2p [AV.vs cs n Tok.none]∧z2p (z0a p)∧z2p (z0a q))∧(noHL 7 ([]++[AV.agg [AV.vs l len Tok.none],AV.vs cs n Tok.none,AV.agg (z0a p),AV.agg (z0a q),AV.fn (Fn.func 128) [] [AV.ptr 2 0,AV.ptr 4 0]]++[]) = true∧(List.take 7 [some (HB.cells [AV.vs l len Tok.none] 25),some (HB.cells ob 4),some (HB.cells [AV.row 1 0 m m] 118),some (HB.cells [AV.vs cs n Tok.none] 49),some (HB.cells [I lf] 3),some (HB.cells (z0a p) 40),some (HB.cells (z0a q) 40)]).all (z1i 7) = true∧[some (HB.cells [AV.vs l len Tok.none] (25:TypeId)),some (HB.cells (z07 (alE l cs (z0a p) (z0a q) ob lf).fst) (4:TypeId)),some (HB.cells [AV.row 1 0 m m] (118:TypeId)),some (HB.cells [AV.vs cs n Tok.none] (49:TypeId)),some (HB.cells [I (alE l cs (z0a p) (z0a q) ob lf).snd] (3:TypeId)),some (HB.cells (z0a p) (40:TypeId)),some (HB.cells (z0a q) (40:TypeId))].length = 7∧7 ≤ [some (HB.cells [AV.vs l len Tok.none] 25),some (HB.cells ob 4),some (HB.cells [AV.row 1 0 m m] 118),some (HB.cells [AV.vs cs n Tok.none] 49),some (HB.cells [I lf] 3),some (HB.cells (z0a p) 40),some (HB.cells (z0a q) 40)].length)∧cIf ((alE l cs (z0a p) (z0a q) ob lf).snd == (0:Int)) (k (EX.exit 0) [X,AV.ptr 0 0,X,AV.ptr 2 0,AV.ptr 3 0,AV.ptr 4 0,AV.ptr 5 0,AV.ptr 6 0,X,X,X,X,X,X,X,X,AV.fn (Fn.func 127) [] [],AV.agg (z0a p),AV.agg (z0a q),AV.agg [AV.vs l len Tok.none],AV.vs cs n Tok.none,AV.agg (z0a p),AV.agg (z0a q),AV.fn (Fn.func 128) [] [AV.ptr 2 0,AV.ptr 4 0],AV.agg [AV.int IntKind.u8 (z01 (dvP l cs (z0a p) (z0a q)).fst (dvP l cs (z0a p) (z0a q)).snd),AV.int IntKind.i64 (dvP l cs (z0a p) (z0a q)).fst,AV.int IntKind.i64 (dvP l cs (z0a p) (z0a q)).snd],AV.int IntKind.i64 (alE l cs (z0a p) (z0a q) ob lf).snd,AV.bool ((alE l cs (z0a p) (z0a q) ob lf).snd == (0:Int)),X] (St.mk [some (HB.cells [AV.vs l len Tok.none] 25),some (HB.cells (z07 (alE l cs (z0a p) (z0a q) ob lf).fst) 4),some (HB.cells [AV.row 1 0 m m] 118),some (HB.cells [AV.vs cs n Tok.none] 49),some (HB.cells [AV.int IntKind.i64 (alE l cs (z0a p) (z0a q) ob lf).snd] 3),some (HB.cells (z0a p) 40),some (HB.cells (z0a q) 40)] [] [4,3,2,1,0,6,5])) (k EX.normal [X,AV.ptr 0 0,X,AV.ptr 2 0,AV.ptr 3 0,AV.ptr 4 0,AV.ptr 5 0,AV.ptr 6 0,X,X,X,X,X,X,X,X,AV.fn (Fn.func 127) [] [],AV.agg (z0a p),AV.agg (z0a q),AV.agg [AV.vs l len Tok.none],AV.vs cs n Tok.none,AV.agg (z0a p),AV.agg (z0a q),AV.fn (Fn.func 128) [] [AV.ptr 2 0,AV.ptr 4 0],AV.agg [AV.int IntKind.u8 (z01 (dvP l cs (z0a p) (z0a q)).fst (dvP l cs (z0a p) (z0a q)).snd),AV.int IntKind.i64 (dvP l cs (z0a p) (z0a q)).fst,AV.int IntKind.i64 (dvP l cs (z0a p) (z0a q)).snd],AV.int IntKind.i64 (alE l cs (z0a p) (z0a q) ob lf).snd,AV.bool ((alE l cs (z0a p) (z0a q) ob lf).snd == (0:Int)),X] (St.mk [some (HB.cells [AV.vs l len Tok.none] 25),some (HB.cells (z07 (alE l cs (z0a p) (z0a q) ob lf).fst) 4),some (HB.cells [AV.row 1 0 m m] 118),some (HB.cells [AV.vs cs n Tok.none] 49),some (HB.cells [AV.int IntKind.i64 (alE l cs (z0a p) (z0a q) ob lf).snd] 3),some (HB.cells (z0a p) 40),some (HB.cells (z0a q) 40)] [] [4,3,2,1,0,6,5]))):=by kernel_rfl
theorem w98 (l cs ob:List AV) (len n m:Nat) (lf:Int) (k:Kont):wpC Tryz.X89 (cd PP 89 [1,1,1,1,1,0]) ([X,.ptr 0 0,X,.ptr 2 0,.ptr 3 0,.ptr 4 0,X,X,X,X,X,X,X,X,X,X,.fn (.func 127) [] []]++List.replicate 11 X) ⟨[some (.cells [.vs l len .none] 25),some (.cells ob 4),some (.cells [.row 1 0 m m] 118),some (.cells [.vs cs n .none] 49),some (.cells [I lf] 3)],[],[]⟩ k =
 (k EX.normal [X,AV.ptr 0 0,AV.row 1 0 m m,AV.ptr 2 0,AV.ptr 3 0,AV.ptr 4 0,X,X,X,X,X,X,X,X,X,X,AV.fn (Fn.func 127) [] [],X,X,X,X,X,X,X,X,X,X,AV.row 1 0 m m] (St.mk [some (HB.cells [AV.vs l len Tok.none] 25),some (HB.cells ob 4),some (HB.cells [AV.row 1 0 m m] 118),some (HB.cells [AV.vs cs n Tok.none] 49),some (HB.cells [I lf] 3)] [] [])):=by kernel_rfl
end Go.Proofs
set_option maxRecDepth 100000
set_option linter.unusedVariables false
namespace Go.Proofs
open Go Go.Ev
theorem x75:cd PP 89 [1,1,1,1,0,1,0] = .rangeFunc (.tmp 16) #[17,18] (cd PP 89 [1,1,1,1,0,1,0,0]) (cd PP 89 [1,1,1,1,0,1,0,1]):=by kernel_rfl
theorem x9o:cd PP 89 [1,1,1,1,0,1] = .block 0 (cd PP 89 [1,1,1,1,0,1,0]):=by kernel_rfl
theorem w0z:cd PP 89 [1,1,1,1,0] = .seq (cd PP 89 [1,1,1,1,0,0]) (cd PP 89 [1,1,1,1,0,1]):=by kernel_rfl
theorem x15:cd PP 89 [1,1,1,1,1,0] = .region 9 (opsOf (cd PP 89 [1,1,1,1,1,0])) false:=by kernel_rfl
theorem x9n:cd PP 89 [1,1,1,1,1,1] = .ret:=by kernel_rfl
theorem w0y:cd PP 89 [1,1,1,1,1] = .seq (cd PP 89 [1,1,1,1,1,0]) (cd PP 89 [1,1,1,1,1,1]):=by kernel_rfl
theorem w19:cd PP 89 [1,1,1,1] = .seq (cd PP 89 [1,1,1,1,0]) (cd PP 89 [1,1,1,1,1]):=by kernel_rfl
theorem w44:cd PP 89 [1,1,1] = .seq (cd PP 89 [1,1,1,0]) (cd PP 89 [1,1,1,1]):=by kernel_rfl
theorem w7h:cd PP 89 [1,1] = .seq (cd PP 89 [1,1,0]) (cd PP 89 [1,1,1]):=by kernel_rfl
theorem w84:cd PP 89 [1] = .seq (cd PP 89 [1,0]) (cd PP 89 [1,1]):=by kernel_rfl
theorem v0q:cd PP 89 [] = .seq (cd PP 89 [0]) (cd PP 89 [1]):=by kernel_rfl
theorem w8i (rs:List Rul) (p q:Prf) (o:List Bool) (lf:Int):alE (z0c rs) (encD (z05 rs)) (z0a p) (z0a q) (z07 o) lf = (decides rs (p,q)).foldl z4g (o,lf):=by
 unfold alE on3 decides
 rw [z0j z0u,z0j z0w,z0j z0w]
 try dsimp only
 rw [z0j z2n]
 try dsimp only
 rw [z0j x1d]
theorem ct78e:CtP Tryz.B.c0 78 7 R78e:=⟨⟨_,_,Tryz.func78,rfl⟩,fun args hs D r hs' hR hD hl=>by
 unfold R78e at hR
 split at hR <;> cases hR
 rename_i l len cs n a b c0 ob m m' c3 lf c5 c6
 obtain ⟨⟨⟨rs,ord,rfl,rfl,hrs,hsh,rfl,rfl,hol,hom,rfl⟩,⟨p,rfl⟩,q,rfl⟩,⟨o,rfl,rfl,hg⟩,g0,g3,g5,g6⟩:=hD
 rw [show z0e 0 [AV.agg [.vs (z0c rs) rs.length .none],.vs (encD ord) ord.length .none,.agg (z0a p),.agg (z0a q),x0o] = [AV.agg [.vs (z0c rs) rs.length .none],.vs (encD ord) ord.length .none,.agg (z0a p),.agg (z0a q),x0o] by simp [z0e,scrub,z1f,Tok.scrub,z2x,z2u]]
 rw [show List.map (Option.map (z06 0)) [some (HB.cells c0 25),some (HB.cells (z07 o) 4),some (HB.cells [AV.row 1 0 rs.length rs.length] 118),some (HB.cells c3 49),some (HB.cells [AV.int IntKind.i64 lf] 3),some (HB.cells c5 40),some (HB.cells c6 40)] = y76 c0 c3 c5 c6 rs.length (o,lf) by
  simp [z06,z0e,scrub,y3e,g0.2,g3.2,g5.2,g6.2]]
 have he:dvP (z0c rs) (encD ord) (z0a p) (z0a q) = z2g (rkR rs) (thR rs p q) (thR rs q p) ord (-1) (-1) 0:=by
  unfold dvP on3
  rw [z0j z0u,z0j z0w,z0j z0w]
  dsimp only
  rw [z0j z2n]
 have ha:alE (z0c rs) (encD ord) (z0a p) (z0a q) (z07 o) lf = (z8e (rkR rs) (thR rs p q) (thR rs q p) ord 0).foldl z4g (o,lf):=by
  unfold alE on3
  rw [z0j z0u,z0j z0w,z0j z0w]
  try dsimp only
  rw [z0j z2n]
  try dsimp only
  rw [z0j x1d]
 rw [he,ha]
 have hc:CallOk Tryz.B128.c0 78 [AV.agg [.vs (z0c rs) rs.length .none],.vs (encD ord) ord.length .none,.agg (z0a p),.agg (z0a q),x0o] ⟨y76 c0 c3 c5 c6 rs.length (o,lf),[],[]⟩ _ ⟨_,[],[]⟩ :=
  z4p (B:=Tryz.B128) (nb:=7) (l:=[(80,R80)]) (lm:=x42) (tp:=[]) (ct:=[9,13,15,18]) (sm:=[(4,12),(9,13),(13,12),(15,12),(18,12)]) z9j y3f rfl
   ((e78 (z0c rs) (encD ord) rs.length ord.length p q c0 c3 c5 c6 (z07 o) rs.length lf _).mpr (z0b (by refine z6j ?_ (z2e 12 73); simp [noHL,noH,z1t]) (z0b (z97 g0 g3 g5 g6 rs.length (o,lf) rs p q (-1) (-1) (by omega))
    (w7x g0 g3 g5 g6 hrs hsh hol hom ord.length 0 (-1) (-1) 0 (o,lf) (by omega) (by omega) hg ⟨rfl,rfl⟩))))
 exact fun G w us h1 h2 h3=>hc G w us h1 h2 h3⟩
theorem w1w:BaseOk Tryz.B78e:=Tryz.bok.hk (ct78e.hook Tryz.gtpB)
theorem y96 (rk:Nat→Int) (th bk:Nat→Bool):∀ (l:List Nat) (r:Int),∀ i ∈ z8e rk th bk l r,i ∈ l
 | [],r,i,h=>by simp [z8e] at h
 | a :: l,r,i,h=>by
  simp only [z8e] at h
  split at h
  ·simp at h
  ·split at h
   ·exact List.mem_cons_of_mem _ (y96 rk th bk l r i h)
   ·rcases List.mem_cons.1 h with rfl | h
    ·exact List.mem_cons_self
    ·exact List.mem_cons_of_mem _ (y96 rk th bk l _ i h)
theorem x0u (rs:List Rul) (x:Prf × Prf):∀ i ∈ decides rs x,i < rs.length:=fun i hi=>y46 rs i (y96 _ _ _ _ _ i hi)
theorem x2c {m:Nat}:∀ (L:List Nat) (s:List Bool × Int),GoodA m s→(∀ i ∈ L,i < m)→GoodA m (L.foldl z4g s)
 | [],s,h,_=>h
 | i :: L,s,h,hl=>x2c L _ (h.mark (hl i List.mem_cons_self)) fun j hj=>hl j (List.mem_cons_of_mem _ hj)
theorem w2e {m:Nat} {s:List Bool × Int} (h:GoodA m s) {k:Nat} (hk:k < m) (i:Nat):(z4g s k).1.getD i false = (s.1.getD i false || k == i):=by
 unfold z4g
 split
 ·rename_i hs
  by_cases e:k = i
  ·subst e; rw [hs]; simp
  ·rw [show (k == i) = false by simpa using e,Bool.or_false]
 ·have hl:k < s.1.length:=by rw [h.1]; exact hk
  by_cases e:k = i
  ·subst e; simp [List.getD_eq_getElem?_getD,hl]
  ·simp [List.getD_eq_getElem?_getD,List.getElem?_set_ne e,e]
theorem x4b {m:Nat}:∀ (L:List Nat) (s:List Bool × Int),GoodA m s→(∀ i ∈ L,i < m)→∀ i,(L.foldl z4g s).1.getD i false = (s.1.getD i false || L.contains i)
 | [],s,_,_,i=>by simp
 | k :: L,s,h,hl,i=>by
  have e:(k == i) = (i == k):=Bool.beq_comm
  rw [List.foldl_cons,x4b L _ (h.mark (hl k List.mem_cons_self)) (fun j hj=>hl j (List.mem_cons_of_mem _ hj)) i,w2e h (hl k List.mem_cons_self),List.contains_cons,Bool.or_assoc,e]
def y19 (rs:List Rul) (s:List Bool × Int) (x:Prf × Prf):List Bool × Int:=(decides rs x).foldl z4g s
def z9z (rs:List Rul):List (Prf × Prf)→List Bool × Int→Option Code × (List Bool × Int)
 | [],s=>(none,s)
 | x :: l,s=>if ((y19 rs s x).2 == 0) = true then (some (.exit 0),y19 rs s x) else z9z rs l (y19 rs s x)
theorem y18 {rs:List Rul} {s:List Bool × Int} (h:GoodA rs.length s) (x:Prf × Prf):GoodA rs.length (y19 rs s x):=x2c _ s h (x0u rs x)
theorem x0i (rs:List Rul):∀ (l:List (Prf × Prf)) (s:List Bool × Int),GoodA rs.length s→GoodA rs.length (z9z rs l s).2
 | [],s,h=>h
 | x :: l,s,h=>by
  simp only [z9z]
  split
  ·exact y18 h x
  ·exact x0i rs l _ (y18 h x)
theorem w2o {m:Nat} {s:List Bool × Int} (h:GoodA m s) (h0:s.2 = 0) {i:Nat} (hi:i < m):s.1.getD i false = true:=by
 have hc:s.1.count false = 0:=by have:=h.2.2; omega
 have hl:i < s.1.length:=by rw [h.1]; exact hi
 cases hv:s.1.getD i false with
 | true=>rfl
 | false =>
  have:false ∈ s.1:=by
   rw [List.getD_eq_getElem?_getD,List.getElem?_eq_getElem hl] at hv
   have:=List.getElem_mem hl
   simp at hv
   rwa [hv] at this
  rw [List.count_eq_zero] at hc
  exact absurd this hc
theorem x61 (rs:List Rul):∀ (l:List (Prf × Prf)) (s:List Bool × Int),GoodA rs.length s→∀ i,i < rs.length→(z9z rs l s).2.1.getD i false = (s.1.getD i false || l.any fun x=>(decides rs x).contains i)
 | [],s,h,i,hi=>by simp [z9z]
 | x :: l,s,h,i,hi=>by
  have hst:(y19 rs s x).1.getD i false = (s.1.getD i false || (decides rs x).contains i):=x4b _ s h (x0u rs x) i
  simp only [z9z]
  split
  ·rename_i h0
   have ht:=w2o (y18 h x) (by simpa using h0) hi
   rw [List.any_cons,ht,← Bool.or_assoc,← hst,ht,Bool.true_or]
  ·rw [x61 rs l _ (y18 h x) i hi,hst,List.any_cons,Bool.or_assoc]
theorem x9t (rs:List Rul) (h:rs.length ≤ 1000):GoodA rs.length (List.replicate rs.length false,(rs.length:Int)):=⟨by simp,h,by simp⟩
theorem w2p {rs:List Rul} (h:rs.length ≤ 1000):(z9z rs csL (List.replicate rs.length false,(rs.length:Int))).2.1 = z2l rs:=by
 have hg:=x0i rs csL _ (x9t rs h)
 have h1:=x61 rs csL _ (x9t rs h)
 apply List.ext_getElem?
 intro i
 rcases Nat.lt_or_ge i rs.length with hi | hi
 ·have h2:=h1 i hi
  have hl:i < (z9z rs csL (List.replicate rs.length false,(rs.length:Int))).2.1.length:=by rw [hg.1]; exact hi
  rw [List.getElem?_eq_getElem hl]
  rw [List.getD_eq_getElem?_getD,List.getElem?_eq_getElem hl] at h2
  simp only [Option.getD_some] at h2
  rw [h2]
  unfold z2l
  rw [List.getElem?_map,List.getElem?_range hi]
  simp [List.getD_eq_getElem?_getD,List.getElem?_replicate,hi]
 ·rw [List.getElem?_eq_none (by rw [hg.1]; exact hi),List.getElem?_eq_none (by simp [z2l]; exact hi)]
def y2o (rs:List Rul) (s:List Bool × Int):List (Option HB):=[some (.cells [.vs (z0c rs) rs.length .none] 25),some (.cells (z07 s.1) 4),some (.cells [.row 1 0 rs.length rs.length] 118),some (.cells [.vs (encD (z05 rs)) rs.length .none] 49),some (.cells [I s.2] 3)]
theorem x0r (rs:List Rul) (s:List Bool × Int):HsOk 5 (y2o rs s) where
 len:=rfl
 ok:=by simp [y2o,z1i,noHB,noHL,noH,z0t,z1t,z5c]
 st:=by simp [y2o,z06,z0e,scrub,Tok.scrub,z1f,z2x,y3e]
def w2q (rs:List Rul):Rnd:=fun it hs j hs'=>∃ (x:Prf × Prf) (s:List Bool × Int),it = itmP x∧GoodA rs.length s∧hs = y2o rs s∧hs' = y2o rs (y19 rs s x)∧((((y19 rs s x).2 == 0) = true∧j = some (.exit 0)) ∨ (((y19 rs s x).2 == 0) = false∧j = none))
theorem w3j (rs:List Rul):∀ (l:List (Prf × Prf)) (s:List Bool × Int),GoodA rs.length s→z43 5 (w2q rs) (l.map itmP) (y2o rs s) (z9z rs l s).1 (y2o rs (z9z rs l s).2)
 | [],s,h=>⟨rfl,rfl⟩
 | x :: l,s,h=>by
  simp only [z9z]
  cases hc:((y19 rs s x).2 == 0) with
  | true =>
   rw [if_pos rfl]
   exact ⟨some (.exit 0),_,⟨x,s,rfl,h,rfl,rfl,.inl ⟨hc,rfl⟩⟩,x0r _ _,rfl,rfl⟩
  | false =>
   rw [if_neg (by simp)]
   exact ⟨none,_,⟨x,s,rfl,h,rfl,rfl,.inr ⟨hc,rfl⟩⟩,x0r _ _,w3j rs l _ (y18 h x)⟩
abbrev e89:Env:=[X,.ptr 0 0,X,.ptr 2 0,.ptr 3 0,.ptr 4 0,X,X,X,X,X,X,X,X,X,X,.fn (.func 127) [] []]++List.replicate 11 X
theorem v0x:Tryz.X89r.Ones:=z00 w1w (Cts.nil _)
theorem v03:CxOk Tryz.X89r.cx:=z1c w1w (Cts.nil _)
theorem c89:Cts Tryz.B [(79,R79),(85,R85)]:=((Cts.nil _).cons w1r).cons x6r
theorem o89:Tryz.X89.Ones:=z0y Tryz.bok c89
theorem k89:CxOk Tryz.X89.cx:=z1e Tryz.bok c89
section
attribute [local irreducible] wpC wpF csL
theorem v0p {rs:List Rul} (hrs:z1j rs) (hsh:∀ x ∈ rs,shT x.t = true):y4u Tryz.X89r #[17,18] (cd PP 89 [1,1,1,1,0,1,0,0]) (cd PP 89 [1,1,1,1,0,1,0,1]) e89 (w2q rs):=by
 rintro it hs j hs' ⟨x,s,rfl,hg,rfl,rfl,h⟩ _
 refine ⟨rfl,?_⟩
 rw [show setPs e89 (#[17,18]:Array Tmp).toList (itmP x) = ([X,.ptr 0 0,X,.ptr 2 0,.ptr 3 0,.ptr 4 0,X,X,X,X,X,X,X,X,X,X,.fn (.func 127) [] [],.agg (z0a x.1),.agg (z0a x.2)]++List.replicate 9 X) by kernel_rfl]
 refine (v0b (z0c rs) (encD (z05 rs)) (z07 s.1) rs.length rs.length rs.length s.2 x.1 x.2 _).mpr ⟨rfl,?_⟩
 refine (v0a (z0c rs) (encD (z05 rs)) (z07 s.1) rs.length rs.length rs.length s.2 x.1 x.2 _).mpr ?_
 have hal:alE (z0c rs) (encD (z05 rs)) (z0a x.1) (z0a x.2) (z07 s.1) s.2 = y19 rs s x:=by rw [w8i]; rfl
 rw [hal]
 have hok:=x0r rs (y19 rs s x)
 refine ⟨⟨⟨⟨rs,z05 rs,rfl,rfl,hrs,hsh,rfl,(y8m rs).1.symm,by rw [(y8m rs).1]; exact hrs.2.1,(y8m rs).2,rfl⟩,⟨_,rfl⟩,_,rfl⟩,⟨s.1,rfl,rfl,hg⟩,⟨fun n=>by simp [noHL,noH,z0t],by simp [z0e,scrub,Tok.scrub,z1f]⟩,⟨fun n=>by simp [noHL,noH,z1t],by simp [z0e,scrub,Tok.scrub,z2x]⟩,w01 _,w01 _⟩,⟨by simp [noHL,noH,z0t,z1t,z04],by simp [z1i,noHB,noHL,noH,z0t,z1t,z5c,z04],rfl,by simp⟩,z0h (fun hc=>?_) (fun hc=>?_)⟩
 ·rcases h with ⟨_,rfl⟩ | ⟨h1,_⟩
  ·exact ⟨fun v h=>(by cases h),rfl,hok.okBlk,hok.st⟩
  ·rw [hc] at h1; cases h1
 ·rcases h with ⟨h1,_⟩ | ⟨_,rfl⟩
  ·rw [hc] at h1; cases h1
  ·exact ⟨fun v h=>(by cases h),rfl,hok.okBlk,hok.st⟩
theorem w9h {rs:List Rul} {s:List Bool × Int} (hg:GoodA rs.length s) (ws:List Nat):z0f Tryz.X89 89 (fun r'=>r' = .ret (.vs (z07 s.1) rs.length .none)) .ret [X,.ptr 0 0,.row 1 0 rs.length rs.length,.ptr 2 0,.ptr 3 0,.ptr 4 0,X,X,X,X,X,X,X,X,X,X,.fn (.func 127) [] [],X,X,X,X,X,X,X,X,X,X,.row 1 0 rs.length rs.length] ⟨y2o rs s,[],ws⟩:=by
 show z3b (pub Tryz.X89.pc (y2o rs s) 0 (.row 1 0 rs.length rs.length)) fun r'=>CR.ret (scrub 0 r') = .ret (.vs (z07 s.1) rs.length .none)
 have hl:(z07 s.1).length = rs.length:=by rw [z8n,hg.1]
 rw [x3b (C:=Tryz.X89.pc) (e:=4) (l:=z07 s.1) rfl (by kernel_rfl) (by omega) (Nat.le_refl _) (by rw [List.take_of_length_le (by omega)]; exact z5c 0 _),List.take_of_length_le (by omega)]
 show CR.ret (scrub 0 (.vs (z07 s.1) rs.length .none)) = _
 rw [scrub,y3e]
 rfl
theorem w89 {rs:List Rul} (hrs:z1j rs) (hsh:∀ x ∈ rs,shT x.t = true):RW Tryz.X89.pc 0 none noY (cd PP 89 []) ([.agg [.vs (z0c rs) rs.length .none]]++List.replicate 27 X) St.nil ⟨none,0⟩ (x0q Tryz.X89 89 (.ret (.vs (z07 (z2l rs)) rs.length .none))):=by
 have hlen:rs.length ≤ 1000:=by have:=hrs.2.1; omega
 rw [v0q]
 refine RW.seq (RW.of_wpC o89 k89 rfl ?_)
 refine (v0f (z0c rs) rs.length _).mpr ?_
 show RW _ _ _ _ (cd PP 89 [1]) _ _ _ _
 rw [w84]
 refine RW.seq (RW.mask' [1] (env':=[X,.ptr 0 0]++List.replicate 26 X) (by kernel_rfl) (RW.of_wpC o89 k89 rfl ?_))
 refine (v0e (z0c rs) rs.length _).mpr (z0b (decide_eq_true (by omega)) (z0b (decide_eq_true (by omega)) (z0b (decide_eq_true (by omega)) ?_)))
 rw [show List.map AV.ofVal (Value.bool false).cells.toList = [AV.bool false] from rfl,x44]
 show RW _ _ _ _ (cd PP 89 [1,1]) _ _ _ _
 rw [w7h]
 refine RW.seq (RW.mask' [1,3] (env':=[X,.ptr 0 0,X,.ptr 2 0]++List.replicate 24 X) (by kernel_rfl) (RW.wl (RW.of_wpC o89 k89 rfl ?_)))
 refine (v0d (z0c rs) (z07 (List.replicate rs.length false)) rs.length rs.length _).mpr ⟨⟨rs,rfl,rfl,hrs⟩,?_⟩
 rw [z0j z0u]
 show RW _ _ _ _ (cd PP 89 [1,1,1]) _ _ _ _
 rw [w44]
 refine RW.seq (RW.mask' [1,3,4] (env':=[X,.ptr 0 0,X,.ptr 2 0,.ptr 3 0]++List.replicate 23 X) (by kernel_rfl) (RW.wl (RW.of_wpC o89 k89 rfl ?_)))
 refine (v0c (z0c rs) (encD (z05 rs)) (z07 (List.replicate rs.length false)) rs.length rs.length rs.length _).mpr ?_
 show RW _ _ _ _ (cd PP 89 [1,1,1,1]) _ _ _ _
 rw [w19,w0z]
 refine RW.seq (RW.seq (RW.mask' [1,3,4,5] (env':=[X,.ptr 0 0,X,.ptr 2 0,.ptr 3 0,.ptr 4 0]++List.replicate 22 X) (by kernel_rfl) (RW.wl (RW.of_wpC o89 k89 rfl ?_))))
 refine (w99 (z0c rs) (encD (z05 rs)) (z07 (List.replicate rs.length false)) rs.length rs.length rs.length (rs.length:Int) _).mpr ⟨trivial,?_⟩
 show RW _ _ _ _ (cd PP 89 [1,1,1,1,0,1]) _ _ _ _
 rw [x9o,x75]
 refine RW.block ?_
 have hg:=x9t rs hlen
 have hr:z43 5 (w2q rs) itsL (y2o rs (List.replicate rs.length false,(rs.length:Int))) (z9z rs csL (List.replicate rs.length false,(rs.length:Int))).1 (y2o rs (z9z rs csL (List.replicate rs.length false,(rs.length:Int))).2):=by rw [x1m]; exact w3j rs csL _ hg
 have hf:=w2p hlen
 have hgf:=x0i rs csL _ hg
 have hj:(z9z rs csL (List.replicate rs.length false,(rs.length:Int))).1 = none ∨ (z9z rs csL (List.replicate rs.length false,(rs.length:Int))).1 = some (.exit 0):=by
  have:∀ (l:List (Prf × Prf)) (s:List Bool × Int),(z9z rs l s).1 = none ∨ (z9z rs l s).1 = some (.exit 0):=by
   intro l
   induction l with
   | nil=>exact fun s=>.inl rfl
   | cons x l ih=>intro s; simp only [z9z]; split <;> first | exact .inr rfl | exact ih _
  exact this _ _
 generalize z9z rs csL (List.replicate rs.length false,(rs.length:Int)) = u at hr hf hgf hj
 obtain ⟨j,s⟩:=u
 have hz:∀ z:Zs,RW Tryz.X89.pc 0 none noY (cd PP 89 [1,1,1,1,1]) e89 ⟨y2o rs s,[],[]⟩ z (x0q Tryz.X89 89 (.ret (.vs (z07 (z2l rs)) rs.length .none))):=by
  intro z
  rw [w0y,x15]
  refine RW.seq (RW.cxpc (RW.region o89 k89 ?_))
  rw [← x15]
  refine (w98 (z0c rs) (encD (z05 rs)) (z07 s.1) rs.length rs.length rs.length s.2 _).mpr ?_
  show RW _ _ _ _ (cd PP 89 [1,1,1,1,1,1]) _ _ _ _
  rw [x9n]
  refine RW.ret ⟨fun v h=>(by cases h),?_⟩
  rw [← hf]
  exact w9h hgf []
 refine RW.range (C:=Tryz.X89r) (hs:=y2o rs (List.replicate rs.length false,(rs.length:Int))) (hs':=y2o rs s) (j:=j) (m:=0) v0x v03 (fun g l h=>Tryz.gtpB g l h) rfl rfl (by kernel_rfl) (by kernel_rfl) rfl (SeqOk.congr (C:=(yX5).pc) (D:=Tryz.X89r.cx) rfl rfl x1g) (v0p hrs hsh) (x0r _ _) (by kernel_rfl) (by kernel_rfl) hr ?_
 rcases hj with rfl | rfl
 ·exact hz _
 ·exact hz _
end
theorem w72:Ct Tryz.B.c0 89 R89 where
 body:=⟨_,_,Tryz.func89,rfl⟩
 ok:=fun args D r hR hD=>by
  unfold R89 at hR
  split at hR <;> cases hR
  obtain ⟨rs,rfl,rfl,hrs,hsh⟩:=hD
  refine ⟨by simp [noHL,noH,z0t],?_⟩
  rw [show z0e 0 [AV.agg [.vs (z0c rs) rs.length .none]] = [AV.agg [.vs (z0c rs) rs.length .none]] by simp [z0e,scrub,z1f,Tok.scrub],z0j z0u]
  have:=CallOk.of_RW (C:=Tryz.X89) (g:=89) (args:=[AV.agg [.vs (z0c rs) rs.length .none]]) (fn:=Tryz.f89) (c:=cd PP 89 []) k89 Tryz.func89 (by kernel_rfl) (RW.congr (C:=Tryz.X89.pc) (D:=Tryz.X89.cx) rfl rfl (w89 hrs hsh))
  exact fun G w us h1 h2 h3=>this G w us h1 h2 h3
end Go.Proofs
