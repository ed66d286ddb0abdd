/- Contracts of functions of the program and of the reference. -/
import Derived.Test.YtljjkomdibkjpaaGreatDoorK3
import Derived.Test.YtljjkomdibkjpaaGreatDoorK7
import Derived.Test.YtljjkomdibkjpaaGreatDoorE5
import Derived.Test.YtljjkomdibkjpaaGreatDoorK6
set_option linter.unusedVariables false
set_option linter.unusedSimpArgs false
set_option maxRecDepth 100000
set_option linter.unusedVariables false
namespace Go.Proofs
open Go Go.Ev
def encD (l:List Nat):List AV:=l.map fun (n:Nat)=>I (n:Int)
def rkR (rs:List Rul) (i:Nat):Int:=match rs[i]? with | some x=>x.rank | none=>1
def z1j (rs:List Rul):Prop:=z1h rs∧rs.length ≤ 24∧∀ x ∈ rs,1 ≤ x.rank∧x.rank ≤ 99
noncomputable def R124:Spc:=fun args=>match args with
 | [.int .i64 a,.int .i64 b,.vp [.vs l len .none]]=>some (∃ rs,l = z0c rs∧len = rs.length∧z1j rs∧0 ≤ a∧a < rs.length∧0 ≤ b∧b < rs.length,rI (z0g z0c (fun rs=>rkR rs b.toNat - rkR rs a.toNat) 0 l))
 | _=>none
noncomputable def Tryz.X124:WCx:=Tryz.B.wcx []
noncomputable def Tryz.B124:Base:=Tryz.B.hk 124 (y02 R124)
def x7t:List (Nat × List Nat):=[(1,[0,1,2,3,10])]
noncomputable def Tryz.X232:WCx:=Tryz.B.wcxP 2 [] x7t [1]
def x7w:List (Nat × List Nat):=[(1,[0,1,2,3,8]),(2,[0,1,2,3,8]),(4,[0,1,2,3,8,9])]
noncomputable def Tryz.X198:WCx:=Tryz.B124.wcxP 2 [] x7w [1]
def z92 (rl:List AV):Prop:=noHL 2 rl = true∧z0e 0 rl = rl
noncomputable def x62:SpcP:=fun args hs=>match args,hs with
 | [.row 1 0 n c,.int .i64 a,.int .i64 b,.int .i64 k,.fn (.func 124) [] [.ptr 0 0]],[some (.cells rl rt),some (.cells cs ct)] =>
  some (rt = 25∧ct = 3∧z92 rl∧n ≤ 24∧(∃ l,cs = encD l∧l.length = n)∧0 ≤ a∧0 ≤ b∧0 ≤ k∧a + k ≤ n∧b + k ≤ n,.ret (.tup []),
   [some (.cells rl 25),some (.cells (encD (z0g encD (fun l=>swR a.toNat b.toNat k.toNat l) [] cs)) 3)])
 | _,_=>none
noncomputable def Tryz.B232:Base:=Tryz.B.hk 232 (z3c 2 x62)
def x7u:List (Nat × List Nat):=[(2,[0,2,4,10,11]),(8,[0,2,4,10])]
noncomputable def Tryz.X218:WCx:=Tryz.B232.wcxP 2 [] x7u [1]
theorem v124 (a b:Int) (l:List AV) (len:Nat) (Q:CR→Prop):wpF Tryz.X124 124 [I a,I b,.vp [.vs l len .none]] Q =
 (cIf (decide ((0:Int) ≤ b)) (cIf (decide (b.toNat < cN [AV.vs l len Tok.none] 0)) (cIf (decide (cN [AV.vs l len Tok.none] 0 * 8 = (cL [AV.vs l len Tok.none] 0).length)) (cIf (decide (0 < (List.drop 1 (List.drop (b.toNat * 8) (cL [AV.vs l len Tok.none] 0))).length)) (cIf (z1g (AV.ofVal (Value.int IntKind.i64 (0:Int))) ((List.drop 1 (List.drop (b.toNat * 8) (cL [AV.vs l len Tok.none] 0))).getD 0 X)) (cIf (decide ((0:Int) ≤ a)) (cIf (decide (a.toNat < cN [AV.vs l len Tok.none] 0)) (cIf (decide (cN [AV.vs l len Tok.none] 0 * 8 = (cL [AV.vs l len Tok.none] 0).length)) (cIf (decide (0 < (List.drop 1 (List.drop (a.toNat * 8) (cL [AV.vs l len Tok.none] 0))).length)) (cIf (z1g (AV.ofVal (Value.int IntKind.i64 (0:Int))) ((List.drop 1 (List.drop (a.toNat * 8) (cL [AV.vs l len Tok.none] 0))).getD 0 X)) (Q (CR.ret (AV.int IntKind.i64 (IntKind.i64.wrap (cI (List.drop 1 (List.drop (b.toNat * 8) (cL [AV.vs l len Tok.none] 0))) 0 - cI (List.drop 1 (List.drop (a.toNat * 8) (cL [AV.vs l len Tok.none] 0))) 0))))) False) False) False) False) False) False) False) False) False) False):=by kernel_rfl
theorem v232 (n c:Nat) (a b k:Int) (rl cs:List AV) (Q:CR→List (Option HB)→Prop):wpS Tryz.X232 232 [.row 1 0 n c,I a,I b,I k,.fn (.func 124) [] [.ptr 0 0]] [some (.cells rl 25),some (.cells cs 3)] Q =
 (z0l Tryz.X232 (cd Tryz.X232.P 232 [1,0,0]) ([AV.row 1 0 n c,I a,I b,I k,X,X,X,X,X,X,I 0]++List.replicate 27 X) (St.mk [some (HB.cells rl 25),some (HB.cells cs 3)] [] []) (z0d 0 (z0s Tryz.X232 232 Q))):=by kernel_rfl
theorem x7a (n c:Nat) (a b k i:Int) (rl cs:List AV) (Q:CR→List (Option HB)→Prop):wpC Tryz.X232 (cd PP 232 [1,0,0]) ([.row 1 0 n c,I a,I b,I k,X,X,X,X,X,X,I i]++List.replicate 27 X) ⟨[some (.cells rl 25),some (.cells cs 3)],[],[]⟩ (z0r Tryz.X232 (cd PP 232 [1,0,0]) (z0d 0 (z0s Tryz.X232 232 Q))) =
 (cIf (decide (i < k)) (cIf (decide ((0:Int) ≤ IntKind.i64.wrap (b + i))) (cIf (decide ((IntKind.i64.wrap (b + i)).toNat < n)) (cIf (decide (0 + (IntKind.i64.wrap (b + i)).toNat * 1 < cs.length)) (cIf (z1g (AV.ofVal (Value.int IntKind.i64 (0:Int))) (cs.getD (0 + (IntKind.i64.wrap (b + i)).toNat * 1) X)) (cIf (decide ((0:Int) ≤ IntKind.i64.wrap (a + i))) (cIf (decide ((IntKind.i64.wrap (a + i)).toNat < n)) (cIf (decide (0 + (IntKind.i64.wrap (a + i)).toNat * 1 < cs.length)) (cIf (z1g (AV.ofVal (Value.int IntKind.i64 (0:Int))) (cs.getD (0 + (IntKind.i64.wrap (a + i)).toNat * 1) X)) (cIf (decide ((0:Int) ≤ IntKind.i64.wrap (a + i))) (cIf (decide ((IntKind.i64.wrap (a + i)).toNat < n)) (cIf (decide (0 + (IntKind.i64.wrap (a + i)).toNat * 1 + 1 ≤ cs.length)) (cIf (decide ((0:Int) ≤ IntKind.i64.wrap (b + i))) (cIf (decide ((IntKind.i64.wrap (b + i)).toNat < n)) (cIf (decide (0 + (IntKind.i64.wrap (b + i)).toNat * 1 + 1 ≤ (z1y cs (0 + (IntKind.i64.wrap (a + i)).toNat * 1) [I (cI cs (0 + (IntKind.i64.wrap (b + i)).toNat * 1))]).length)) (z0l Tryz.X232 (cd PP 232 [1,0,0]) ([AV.row 1 0 n c,I a,I b,I k,X,X,X,X,X,X,I (IntKind.i64.wrap (i + (1:Int)))]++List.replicate 27 X) (St.mk [some (HB.cells rl 25),some (HB.cells (z1y (z1y cs (0 + (IntKind.i64.wrap (a + i)).toNat * 1) [I (cI cs (0 + (IntKind.i64.wrap (b + i)).toNat * 1))]) (0 + (IntKind.i64.wrap (b + i)).toNat * 1) [I (cI cs (0 + (IntKind.i64.wrap (a + i)).toNat * 1))]) 3)] [] []) (z0d 0 (z0s Tryz.X232 232 Q))) False) False) False) False) False) False) False) False) False) False) False) False) False) False) (cIf ((List.take Tryz.X232.bs (St.mk [some (HB.cells rl 25),some (HB.cells cs 3)] [] []).hs).all (okBlk Tryz.X232.bs)) (Q (CR.ret (AV.tup [])) [some (HB.cells (z0e (nat_lit 0) rl) 25),some (HB.cells (z0e (nat_lit 0) cs) 3)]) False)):=by kernel_rfl
theorem v198 (n c:Nat) (a b:Int) (rl cs:List AV) (Q:CR→List (Option HB)→Prop):wpS Tryz.X198 198 [.row 1 0 n c,I a,I b,.fn (.func 124) [] [.ptr 0 0]] [some (.cells rl 25),some (.cells cs 3)] Q =
 (z0l Tryz.X198 (cd Tryz.X198.P 198 [1,0,0]) ([AV.row 1 0 n c,I a,I b,AV.fn (Fn.func 124) [] [AV.ptr 0 0],X,X,X,X,I (IntKind.i64.wrap (a + (1:Int)))]++List.replicate 44 X) (St.mk [some (HB.cells rl 25),some (HB.cells cs 3)] [] []) (z0d 0 (z0s Tryz.X198 198 Q))):=by kernel_rfl
theorem x7g (n c:Nat) (a b i:Int) (rl cs:List AV) (Q:CR→List (Option HB)→Prop):wpC Tryz.X198 (cd PP 198 [1,0,0]) ([.row 1 0 n c,I a,I b,.fn (.func 124) [] [.ptr 0 0],X,X,X,X,I i]++List.replicate 44 X) ⟨[some (.cells rl 25),some (.cells cs 3)],[],[]⟩ (z0r Tryz.X198 (cd PP 198 [1,0,0]) (z0d 0 (z0s Tryz.X198 198 Q))) =
 (cIf (decide (i < b)) (z0l Tryz.X198 (cd PP 198 [1,0,0,1,0,0,1,0,0]) ([AV.row 1 0 n c,I a,I b,AV.fn (Fn.func 124) [] [AV.ptr 0 0],X,X,X,X,I i,I i]++List.replicate 43 X) (St.mk [some (HB.cells rl 25),some (HB.cells cs 3)] [] []) (z0d 2 (z0d 1 (z0i Tryz.X198 (cd PP 198 [1,0,0,1,1]) (z0r Tryz.X198 (cd PP 198 [1,0,0]) (z0d 0 (z0s Tryz.X198 198 Q))))))) (cIf ((List.take Tryz.X198.bs (St.mk [some (HB.cells rl 25),some (HB.cells cs 3)] [] []).hs).all (okBlk Tryz.X198.bs)) (Q (CR.ret (AV.tup [])) [some (HB.cells (z0e (nat_lit 0) rl) 25),some (HB.cells (z0e (nat_lit 0) cs) 3)]) False)):=by kernel_rfl
theorem x7h (n c:Nat) (a b i j:Int) (l cs:List AV) (len:Nat) (Q:CR→List (Option HB)→Prop):wpC Tryz.X198 (cd PP 198 [1,0,0,1,0,0,1,0,0]) ([.row 1 0 n c,I a,I b,.fn (.func 124) [] [.ptr 0 0],X,X,X,X,I i,I j]++List.replicate 43 X) ⟨[some (.cells [.vs l len .none] 25),some (.cells cs 3)],[],[]⟩ (z0r Tryz.X198 (cd PP 198 [1,0,0,1,0,0,1,0,0]) (z0d 2 (z0d 1 (z0i Tryz.X198 (cd PP 198 [1,0,0,1,1]) (z0r Tryz.X198 (cd PP 198 [1,0,0]) (z0d 0 (z0s Tryz.X198 198 Q))))))) =
 (cIf (decide (j > a)) (cIf (decide ((0:Int) ≤ j)) (cIf (decide (j.toNat < n)) (cIf (decide (0 + j.toNat * 1 < cs.length)) (cIf (z1g (AV.ofVal (Value.int IntKind.i64 (0:Int))) (cs.getD (0 + j.toNat * 1) X)) (cIf (decide ((0:Int) ≤ IntKind.i64.wrap (j - (1:Int)))) (cIf (decide ((IntKind.i64.wrap (j - (1:Int))).toNat < n)) (cIf (decide (0 + (IntKind.i64.wrap (j - (1:Int))).toNat * 1 < cs.length)) (cIf (z1g (AV.ofVal (Value.int IntKind.i64 (0:Int))) (cs.getD (0 + (IntKind.i64.wrap (j - (1:Int))).toNat * 1) X)) ((∃ (rs:List Rul),l = z0c rs∧len = rs.length∧z1j rs∧(0:Int) ≤ cI cs (0 + j.toNat * 1)∧cI cs (0 + j.toNat * 1) < (↑rs.length:Int)∧(0:Int) ≤ cI cs (0 + (IntKind.i64.wrap (j - (1:Int))).toNat * 1)∧cI cs (0 + (IntKind.i64.wrap (j - (1:Int))).toNat * 1) < (↑rs.length:Int))∧(y3k (rI (z0g z0c (fun (rs:List Rul)=>rkR rs (cI cs (0 + (IntKind.i64.wrap (j - (1:Int))).toNat * 1)).toNat - rkR rs (cI cs (0 + j.toNat * 1)).toNat) (0:Int) l)) = true∧z4j (St.mk [some (HB.cells [AV.vs l len Tok.none] 25),some (HB.cells cs 3)] [] []).hs ([]++[I (cI cs (0 + j.toNat * 1)),I (cI cs (0 + (IntKind.i64.wrap (j - (1:Int))).toNat * 1))]++[AV.ptr 0 0]) = true)∧St.mk [some (HB.cells [AV.vs l len Tok.none] 25),some (HB.cells cs 3)] [] [] = St.mk [some (HB.cells [AV.vs l len Tok.none] 25),some (HB.cells cs 3)] [] []∧cIf (decide (z0g z0c (fun (rs:List Rul)=>rkR rs (cI cs (0 + (IntKind.i64.wrap (j - (1:Int))).toNat * 1)).toNat - rkR rs (cI cs (0 + j.toNat * 1)).toNat) (0:Int) l < (0:Int))) (cIf (decide ((0:Int) ≤ IntKind.i64.wrap (j - (1:Int)))) (cIf (decide ((IntKind.i64.wrap (j - (1:Int))).toNat < n)) (cIf (decide (0 + (IntKind.i64.wrap (j - (1:Int))).toNat * 1 < cs.length)) (cIf (z1g (AV.ofVal (Value.int IntKind.i64 (0:Int))) (cs.getD (0 + (IntKind.i64.wrap (j - (1:Int))).toNat * 1) X)) (cIf (decide ((0:Int) ≤ j)) (cIf (decide (j.toNat < n)) (cIf (decide (0 + j.toNat * 1 < cs.length)) (cIf (z1g (AV.ofVal (Value.int IntKind.i64 (0:Int))) (cs.getD (0 + j.toNat * 1) X)) (cIf (decide ((0:Int) ≤ j)) (cIf (decide (j.toNat < n)) (cIf (decide (0 + j.toNat * 1 + 1 ≤ cs.length)) (cIf (decide ((0:Int) ≤ IntKind.i64.wrap (j - (1:Int)))) (cIf (decide ((IntKind.i64.wrap (j - (1:Int))).toNat < n)) (cIf (decide (0 + (IntKind.i64.wrap (j - (1:Int))).toNat * 1 + 1 ≤ (z1y cs (0 + j.toNat * 1) [I (cI cs (0 + (IntKind.i64.wrap (j - (1:Int))).toNat * 1))]).length)) (z0l Tryz.X198 (cd PP 198 [1,0,0,1,0,0,1,0,0]) ([AV.row 1 0 n c,I a,I b,AV.fn (Fn.func 124) [] [AV.ptr 0 0],X,X,X,X,I i,I (IntKind.i64.wrap (j - (1:Int)))]++List.replicate 43 X) (St.mk [some (HB.cells [AV.vs l len Tok.none] 25),some (HB.cells (z1y (z1y cs (0 + j.toNat * 1) [I (cI cs (0 + (IntKind.i64.wrap (j - (1:Int))).toNat * 1))]) (0 + (IntKind.i64.wrap (j - (1:Int))).toNat * 1) [I (cI cs (0 + j.toNat * 1))]) 3)] [] []) (z0d 2 (z0d 1 (z0i Tryz.X198 (cd PP 198 [1,0,0,1,1]) (z0r Tryz.X198 (cd PP 198 [1,0,0]) (z0d 0 (z0s Tryz.X198 198 Q))))))) False) False) False) False) False) False) False) False) False) False) False) False) False) False) (z0l Tryz.X198 (cd PP 198 [1,0,0]) ([AV.row 1 0 n c,I a,I b,AV.fn (Fn.func 124) [] [AV.ptr 0 0],X,X,X,X,I (IntKind.i64.wrap (i + (1:Int)))]++List.replicate 44 X) (St.mk [some (HB.cells [AV.vs l len Tok.none] 25),some (HB.cells cs 3)] [] []) (z0d 0 (z0s Tryz.X198 198 Q)))) False) False) False) False) False) False) False) False) (z0l Tryz.X198 (cd PP 198 [1,0,0]) ([AV.row 1 0 n c,I a,I b,AV.fn (Fn.func 124) [] [AV.ptr 0 0],X,X,X,X,I (IntKind.i64.wrap (i + (1:Int)))]++List.replicate 44 X) (St.mk [some (HB.cells [AV.vs l len Tok.none] 25),some (HB.cells cs 3)] [] []) (z0d 0 (z0s Tryz.X198 198 Q)))):=by kernel_rfl
theorem v218 (n c:Nat) (a m b:Int) (rl cs:List AV) (Q:CR→List (Option HB)→Prop):wpS Tryz.X218 218 [.row 1 0 n c,I a,I m,I b,.fn (.func 124) [] [.ptr 0 0]] [some (.cells rl 25),some (.cells cs 3)] Q =
 (z0l Tryz.X218 (cd Tryz.X218.P 218 [1,1,0,0,0]) ([AV.row 1 0 n c,X,I m,X,AV.fn (Fn.func 124) [] [AV.ptr 0 0],X,X,X,X,X,I (IntKind.i64.wrap (m - a)),I (IntKind.i64.wrap (b - m))]++List.replicate 46 X) (St.mk [some (HB.cells rl 25),some (HB.cells cs 3)] [] []) (z0d 0 (z0i Tryz.X218 (cd Tryz.X218.P 218 [1,1,1]) (z0s Tryz.X218 218 Q)))):=by kernel_rfl
theorem w27 (n c:Nat) (m i j:Int) (rl cs:List AV) (Q:CR→List (Option HB)→Prop):wpC Tryz.X218 (cd PP 218 [1,1,0,0,0]) ([.row 1 0 n c,X,I m,X,.fn (.func 124) [] [.ptr 0 0],X,X,X,X,X,I i,I j]++List.replicate 46 X) ⟨[some (.cells rl 25),some (.cells cs 3)],[],[]⟩ (z0r Tryz.X218 (cd PP 218 [1,1,0,0,0]) (z0d 0 (z0i Tryz.X218 (cd PP 218 [1,1,1]) (z0s Tryz.X218 218 Q)))) =
 (cIf (i != j) (cIf (decide (i > j)) ((25 = (25:TypeId)∧3 = (3:TypeId)∧z92 rl∧n ≤ 24∧(∃ (l:List Nat),cs = encD l∧l.length = n)∧(0:Int) ≤ IntKind.i64.wrap (m - i)∧(0:Int) ≤ m∧(0:Int) ≤ j∧IntKind.i64.wrap (m - i) + j ≤ (↑n:Int)∧m + j ≤ (↑n:Int))∧(noHL 2 ([]++[AV.row 1 0 n c,I (IntKind.i64.wrap (m - i)),I m,I j,AV.fn (Fn.func 124) [] [AV.ptr 0 0]]++[]) = true∧(List.take 2 (St.mk [some (HB.cells rl 25),some (HB.cells cs 3)] [] []).hs).all (z1i 2) = true∧[some (HB.cells rl (25:TypeId)),some (HB.cells (encD (z0g encD (fun (l:List Nat)=>swR (IntKind.i64.wrap (m - i)).toNat m.toNat j.toNat l) [] cs)) (3:TypeId))].length = 2∧2 ≤ (St.mk [some (HB.cells rl 25),some (HB.cells cs 3)] [] []).hs.length)∧z0l Tryz.X218 (cd PP 218 [1,1,0,0,0]) ([AV.row 1 0 n c,X,I m,X,AV.fn (Fn.func 124) [] [AV.ptr 0 0],X,X,X,X,X,I (IntKind.i64.wrap (i - j)),I j]++List.replicate 46 X) (St.mk [some (HB.cells rl 25),some (HB.cells (encD (z0g encD (fun (l:List Nat)=>swR (IntKind.i64.wrap (m - i)).toNat m.toNat j.toNat l) [] cs)) 3)] [] []) (z0d 0 (z0i Tryz.X218 (cd PP 218 [1,1,1]) (z0s Tryz.X218 218 Q)))) ((25 = (25:TypeId)∧3 = (3:TypeId)∧z92 rl∧n ≤ 24∧(∃ (l:List Nat),cs = encD l∧l.length = n)∧(0:Int) ≤ IntKind.i64.wrap (m - i)∧(0:Int) ≤ IntKind.i64.wrap (IntKind.i64.wrap (m + j) - i)∧(0:Int) ≤ i∧IntKind.i64.wrap (m - i) + i ≤ (↑n:Int)∧IntKind.i64.wrap (IntKind.i64.wrap (m + j) - i) + i ≤ (↑n:Int))∧(noHL 2 ([]++[AV.row 1 0 n c,I (IntKind.i64.wrap (m - i)),I (IntKind.i64.wrap (IntKind.i64.wrap (m + j) - i)),I i,AV.fn (Fn.func 124) [] [AV.ptr 0 0]]++[]) = true∧(List.take 2 (St.mk [some (HB.cells rl 25),some (HB.cells cs 3)] [] []).hs).all (z1i 2) = true∧[some (HB.cells rl (25:TypeId)),some (HB.cells (encD (z0g encD (fun (l:List Nat)=>swR (IntKind.i64.wrap (m - i)).toNat (IntKind.i64.wrap (IntKind.i64.wrap (m + j) - i)).toNat i.toNat l) [] cs)) (3:TypeId))].length = 2∧2 ≤ (St.mk [some (HB.cells rl 25),some (HB.cells cs 3)] [] []).hs.length)∧z0l Tryz.X218 (cd PP 218 [1,1,0,0,0]) ([AV.row 1 0 n c,X,I m,X,AV.fn (Fn.func 124) [] [AV.ptr 0 0],X,X,X,X,X,I i,I (IntKind.i64.wrap (j - i))]++List.replicate 46 X) (St.mk [some (HB.cells rl 25),some (HB.cells (encD (z0g encD (fun (l:List Nat)=>swR (IntKind.i64.wrap (m - i)).toNat (IntKind.i64.wrap (IntKind.i64.wrap (m + j) - i)).toNat i.toNat l) [] cs)) 3)] [] []) (z0d 0 (z0i Tryz.X218 (cd PP 218 [1,1,1]) (z0s Tryz.X218 218 Q))))) ((25 = (25:TypeId)∧3 = (3:TypeId)∧z92 rl∧n ≤ 24∧(∃ (l:List Nat),cs = encD l∧l.length = n)∧(0:Int) ≤ IntKind.i64.wrap (m - i)∧(0:Int) ≤ m∧(0:Int) ≤ i∧IntKind.i64.wrap (m - i) + i ≤ (↑n:Int)∧m + i ≤ (↑n:Int))∧(noHL 2 ([]++[AV.row 1 0 n c,I (IntKind.i64.wrap (m - i)),I m,I i,AV.fn (Fn.func 124) [] [AV.ptr 0 0]]++[]) = true∧(List.take 2 (St.mk [some (HB.cells rl 25),some (HB.cells cs 3)] [] []).hs).all (z1i 2) = true∧[some (HB.cells rl (25:TypeId)),some (HB.cells (encD (z0g encD (fun (l:List Nat)=>swR (IntKind.i64.wrap (m - i)).toNat m.toNat i.toNat l) [] cs)) (3:TypeId))].length = 2∧2 ≤ (St.mk [some (HB.cells rl 25),some (HB.cells cs 3)] [] []).hs.length)∧cIf ((List.take Tryz.X218.bs (St.mk [some (HB.cells rl 25),some (HB.cells (encD (z0g encD (fun (l:List Nat)=>swR (IntKind.i64.wrap (m - i)).toNat m.toNat i.toNat l) [] cs)) 3)] [] [1,0]).hs).all (okBlk Tryz.X218.bs)) (Q (CR.ret (AV.tup [])) [some (HB.cells (z0e (nat_lit 0) rl) 25),some (HB.cells (z0e (nat_lit 0) (encD (z0g encD (fun (l:List Nat)=>swR (IntKind.i64.wrap (m - i)).toNat m.toNat i.toNat l) [] cs))) 3)]) False)):=by kernel_rfl
end Go.Proofs
set_option maxRecDepth 100000
set_option linter.unusedVariables false
namespace Go.Ev
theorem z4v (l:List Nat):(Go.Proofs.encD l).length = l.length:=by simp [Go.Proofs.encD]
theorem y94 (l:List Nat) (j:Nat) (h:j < l.length):(Go.Proofs.encD l).getD j .bad = I (gN l j:Int):=by
 simp [Go.Proofs.encD,gN,List.getD_eq_getElem?_getD,List.getElem?_map,List.getElem?_eq_getElem h]
theorem z3u (l:List Nat) (j:Nat) (h:j < l.length):cI (Go.Proofs.encD l) j = (gN l j:Int):=by
 unfold cI; rw [y94 l j h]; rfl
theorem z10 (l:List Nat) (j:Nat) (h:j < l.length):z1g (AV.ofVal (Value.int IntKind.i64 (0:Int))) ((Go.Proofs.encD l).getD j .bad) = true:=by
 rw [y94 l j h]; rfl
theorem z6n (l:List Nat) (j v:Nat) (h:j < l.length):z1y (Go.Proofs.encD l) j [I (v:Int)] = Go.Proofs.encD (l.set j v):=by
 unfold z1y Go.Proofs.encD
 rw [List.set_eq_take_append_cons_drop,if_pos h]
 simp
theorem z2n:∀ a b:List Nat,Go.Proofs.encD a = Go.Proofs.encD b→a = b
 | [],[],h=>rfl
 | [],b :: m,h=>by simp [Go.Proofs.encD] at h
 | a :: l,[],h=>by simp [Go.Proofs.encD] at h
 | a :: l,b :: m,h=>by
  simp only [Go.Proofs.encD,List.map_cons,List.cons.injEq,AV.int.injEq,true_and] at h
  rw [show a = b by omega,z2n l m (by simpa [Go.Proofs.encD] using h.2)]
theorem z1t (n:Nat):∀ l:List Nat,noHL n (Go.Proofs.encD l) = true
 | []=>rfl
 | a :: l=>by have:=z1t n l; simp [Go.Proofs.encD,noHL,noH] at this ⊢; exact this
theorem z2x (n:Nat):∀ l:List Nat,z0e n (Go.Proofs.encD l) = Go.Proofs.encD l
 | []=>rfl
 | a :: l=>by have:=z2x n l; simp [Go.Proofs.encD,z0e,scrub] at this ⊢; exact this
theorem wA {a b:Nat} (h:a + b ≤ 9223372036854775807):IntKind.i64.wrap ((a:Int) + (b:Int)) = ((a + b:Nat):Int):=by
 rw [z09 (by omega) (by omega)]; omega
theorem wS {a b:Nat} (h:b ≤ a) (h2:a ≤ 9223372036854775807):IntKind.i64.wrap ((a:Int) - (b:Int)) = ((a - b:Nat):Int):=by
 rw [z09 (by omega) (by omega)]; omega
theorem wA1 {a:Nat} (h:a + 1 ≤ 9223372036854775807):IntKind.i64.wrap ((a:Int) + 1) = ((a + 1:Nat):Int):=by
 rw [z09 (by omega) (by omega)]; omega
theorem wS1 {a:Nat} (h:1 ≤ a) (h2:a ≤ 9223372036854775807):IntKind.i64.wrap ((a:Int) - 1) = ((a - 1:Nat):Int):=by
 rw [z09 (by omega) (by omega)]; omega
theorem z0z (a:Nat):decide ((0:Int) ≤ (a:Int)) = true:=decide_eq_true (by omega)
theorem row_in {a n:Nat} (h:a < n):decide ((a:Int).toNat < n) = true:=decide_eq_true (by omega)
theorem z9s (a:Nat):0 + (a:Int).toNat * 1 = a:=by omega
theorem z4q {a:Nat} {l:List Nat} (h:a < l.length):decide (a < (Go.Proofs.encD l).length) = true:=decide_eq_true (by rw [z4v]; exact h)
theorem z7l {a:Nat} {l:List Nat} (h:a < l.length):decide (a + 1 ≤ (Go.Proofs.encD l).length) = true:=decide_eq_true (by rw [z4v]; exact h)
end Go.Ev
namespace Go.Proofs
open Go Go.Ev
theorem ct124:Ct Tryz.B.c0 124 R124:=Ct.of_wp (lm:=[]) Tryz.bok (Cts.nil _) ⟨_,_,Tryz.func124,rfl⟩ fun args D r hR hD=>by
 unfold R124 at hR
 split at hR <;> cases hR
 rename_i a b l len
 obtain ⟨rs,rfl,rfl,hrs,ha0,ha,hb0,hb⟩:=hD
 refine ⟨by simp [noHL,noH,z0t],?_⟩
 rw [show z0e 0 [I a,I b,.vp [.vs (z0c rs) rs.length .none]] = [I a,I b,.vp [.vs (z0c rs) rs.length .none]] by simp [z0e,scrub,z1f,Tok.scrub]]
 rw [z0j z0u]
 obtain ⟨a,rfl⟩:∃ k:Nat,a = k:=⟨a.toNat,by omega⟩
 obtain ⟨b,rfl⟩:∃ k:Nat,b = k:=⟨b.toNat,by omega⟩
 have ha:a < rs.length:=by omega
 have hb:b < rs.length:=by omega
 refine (v124 _ _ _ _ _).mpr ?_
 show cIf (decide ((0:Int) ≤ (b:Int))) (cIf (decide ((b:Int).toNat < rs.length)) (cIf (decide (rs.length * 8 = (z0c rs).length)) _ _) _) _
 have hx:rs[a]? = some rs[a]:=List.getElem?_eq_getElem ha
 have hy:rs[b]? = some rs[b]:=List.getElem?_eq_getElem hb
 have key:∀ (k:Nat) (x:Rul),rs[k]? = some x→(List.drop 1 (List.drop (k * 8) (z0c rs))).getD 0 .bad = I x.rank:=by
  intro k x hk
  have:=z4u hk
  unfold el at this
  rw [List.drop_zero] at this
  have h1:=congrArg (fun l=>l.getD 1 AV.bad) this
  simp only [z1d] at h1
  rw [List.getD_eq_getElem?_getD,List.getElem?_take_of_lt (by omega)] at h1
  rw [List.getD_eq_getElem?_getD,List.getElem?_drop]
  simpa using h1
 have len:∀ k,k < rs.length→0 < (List.drop 1 (List.drop (k * 8) (z0c rs))).length:=by
  intro k hk
  have:=z03 (z02 rs) hk
  rw [List.length_drop]; omega
 refine z0b (z0z _) (z0b (row_in hb) (z0b (decide_eq_true (z02 rs).symm) (z0b (decide_eq_true (len b hb)) (z0b ?_ (z0b (z0z _) (z0b (row_in ha) (z0b (decide_eq_true (z02 rs).symm) (z0b (decide_eq_true (len a ha)) (z0b ?_ ?_)))))))))
 ·show z1g _ ((List.drop 1 (List.drop (b * 8) (z0c rs))).getD 0 .bad) = true
  rw [key b _ hy]; rfl
 ·show z1g _ ((List.drop 1 (List.drop (a * 8) (z0c rs))).getD 0 .bad) = true
  rw [key a _ hx]; rfl
 ·have ca:cI (List.drop 1 (List.drop (a * 8) (z0c rs))) 0 = rs[a].rank:=by unfold cI; rw [key a _ hx]; rfl
  have cb:cI (List.drop 1 (List.drop (b * 8) (z0c rs))) 0 = rs[b].rank:=by unfold cI; rw [key b _ hy]; rfl
  show rI (IntKind.i64.wrap (cI (List.drop 1 (List.drop (b * 8) (z0c rs))) 0 - cI (List.drop 1 (List.drop (a * 8) (z0c rs))) 0)) = _
  have r1:=hrs.2.2 _ (List.getElem_mem ha)
  have r2:=hrs.2.2 _ (List.getElem_mem hb)
  rw [ca,cb,z09 (by omega) (by omega)]
  simp only [rkR,Int.toNat_natCast,hx,hy]
theorem x8z:HookOk Tryz.B.c0 124 (y02 R124):=ct124.hookS Tryz.gtpB fun args D r hR hD=>by
 unfold R124 at hR
 split at hR <;> cases hR
 obtain ⟨rs,rfl,rfl,hrs,ha0,ha,hb0,hb⟩:=hD
 simp [z0e,scrub,z1f,Tok.scrub]
theorem bok124:BaseOk Tryz.B124:=Tryz.bok.hk x8z
theorem y39 {rl:List AV} (h:z92 rl) (l:List Nat) (r:List (Option HB)):(List.take 2 ([some (HB.cells rl 25),some (HB.cells (encD l) 3)]++r)).all (okBlk 2) = true:=by
 simp [okBlk,noHB,h.1,z1t]
theorem x2x {rl:List AV} (h:z92 rl) (l:List Nat) (r:List (Option HB)):(List.take 2 ([some (HB.cells rl 25),some (HB.cells (encD l) 3)]++r)).all (z1i 2) = true:=by
 simp [z1i,noHB,h.1,z1t]
abbrev hsB (rl:List AV) (l:List Nat):List (Option HB):=[some (.cells rl 25),some (.cells (encD l) 3)]
theorem y9z {rl:List AV} (h:z92 rl) (l:List Nat):(hsB rl l).map (Option.map (z06 0)) = hsB rl l:=by
 simp [hsB,z06,h.2,z2x]
section
variable {n c:Nat} (hn:n ≤ 24) {rl:List AV} (hb:z92 rl) {Q:CR→List (Option HB)→Prop}
include hn hb
theorem x5m {a b k:Nat} (h1:a + k ≤ n) (h2:b + k ≤ n):∀ (d i:Nat) (l:List Nat),k - i = d→i ≤ k→l.length = n→Q (.ret (.tup [])) (hsB rl (swN a b d i l)) →
  z0l Tryz.X232 (cd PP 232 [1,0,0]) ([.row 1 0 n c,I a,I b,I k,X,X,X,X,X,X,I i]++List.replicate 27 X) ⟨hsB rl l,[],[]⟩ (z0d 0 (z0s Tryz.X232 232 Q)):=by
 intro d
 induction d with
 | zero =>
  intro i l hd hi hl hQ
  refine z0n (z00 Tryz.bok (Cts.nil _)) (z1c Tryz.bok (Cts.nil _)) ((x7a n c a b k i rl _ Q).mpr (z0p (by simp; omega) (z0b (y39 hb l []) ?_)))
  rw [hb.2,z2x]
  exact hQ
 | succ d ih =>
  intro i l hd hi hl hQ
  refine z0n (z00 Tryz.bok (Cts.nil _)) (z1c Tryz.bok (Cts.nil _)) ((x7a n c a b k i rl _ Q).mpr (z0b (by simp; omega) ?_))
  rw [wA (a:=a) (b:=i) (by omega),wA (a:=b) (b:=i) (by omega),wA1 (a:=i) (by omega)]
  simp only [z9s]
  have ha:a + i < l.length:=by omega
  have hb':b + i < l.length:=by omega
  rw [z3u l _ ha,z3u l _ hb',z6n l _ _ ha,z6n (l.set _ _) _ _ (by simpa using hb')]
  refine z0b (z0z _) (z0b (row_in (by omega)) (z0b (z4q hb') (z0b (z10 l _ hb') (z0b (z0z _) (z0b (row_in (by omega)) (z0b (z4q ha) (z0b (z10 l _ ha)
   (z0b (z0z _) (z0b (row_in (by omega)) (z0b (z7l ha) (z0b (z0z _) (z0b (row_in (by omega)) (z0b (z7l (by simpa using hb')) ?_)))))))))))))
  exact ih (i + 1) (sw l (a + i) (b + i)) (by omega) (by omega) (by rw [z6z]; exact hl) hQ
end
theorem ct232:CtP Tryz.B.c0 232 2 x62 where
 body:=⟨_,_,Tryz.func232,rfl⟩
 ok:=fun args hs D r hs' hR hD hl=>by
  unfold x62 at hR
  split at hR <;> cases hR
  rename_i n c a b k rl rt cs ct
  obtain ⟨rfl,rfl,hb,hn,⟨l,rfl,hl'⟩,ha0,hb0,hk0,h1,h2⟩:=hD
  obtain ⟨a,rfl⟩:∃ k:Nat,a = k:=⟨a.toNat,by omega⟩
  obtain ⟨b,rfl⟩:∃ k:Nat,b = k:=⟨b.toNat,by omega⟩
  obtain ⟨k,rfl⟩:∃ j:Nat,k = j:=⟨k.toNat,by omega⟩
  rw [y9z hb,z0j z2n]
  simp only [Int.toNat_natCast]
  exact z4p (B:=Tryz.B) (l:=[]) (lm:=x7t) (tp:=[1]) (ct:=[]) (sm:=[]) (nb:=2) Tryz.bok (Cts.nil _) rfl ((v232 n c a b k rl _ _).mpr (x5m hn hb (by omega) (by omega) k 0 l (by omega) (by omega) hl' ⟨rfl,rfl⟩))
end Go.Proofs
set_option maxRecDepth 100000
set_option linter.unusedVariables false
namespace Go.Proofs
open Go Go.Ev
noncomputable def x63:SpcP:=fun args hs=>match args,hs with
 | [.row 1 0 n c,.int .i64 a,.int .i64 m,.int .i64 b,.fn (.func 124) [] [.ptr 0 0]],[some (.cells rl rt),some (.cells cs ct)] =>
  some (rt = 25∧ct = 3∧z92 rl∧n ≤ 24∧(∃ l,cs = encD l∧l.length = n)∧0 ≤ a∧a < m∧m < b∧b ≤ n,.ret (.tup []),
   [some (.cells rl 25),some (.cells (encD (z0g encD (fun l=>y53 a.toNat m.toNat b.toNat l) [] cs)) 3)])
 | _,_=>none
def ltR (rs:List Rul) (x y:Nat):Bool:=decide (rkR rs y - rkR rs x < 0)
def okS (rl cs:List AV) (len n:Nat):Prop:=∃ (rs:List Rul) (l:List Nat),rl = z0c rs∧len = rs.length∧z1j rs∧cs = encD l∧l.length = n∧∀ x ∈ l,x < rs.length
noncomputable def onS (rl cs:List AV) (f:(Nat→Nat→Bool)→List Nat→List Nat):List AV:=encD (z0g z0c (fun rs=>z0g encD (fun l=>f (ltR rs) l) [] cs) [] rl)
noncomputable def x64:SpcP:=fun args hs=>match args,hs with
 | [.row 1 0 n c,.int .i64 a,.int .i64 b,.fn (.func 124) [] [.ptr 0 0]],[some (.cells [.vs rl len .none] rt),some (.cells cs ct)] =>
  some (rt = 25∧ct = 3∧n ≤ 24∧okS rl cs len n∧0 ≤ a∧a ≤ n∧0 ≤ b∧b ≤ n,.ret (.tup []),
   [some (.cells [.vs rl len .none] 25),some (.cells (onS rl cs fun lt l=>z4i lt a.toNat b.toNat l) 3)])
 | _,_=>none
noncomputable def R199:SpcP:=fun args hs=>match args,hs with
 | [.row 1 0 n c,.int .i64 a,.int .i64 m,.int .i64 b,.fn (.func 124) [] [.ptr 0 0]],[some (.cells [.vs rl len .none] rt),some (.cells cs ct)] =>
  some (rt = 25∧ct = 3∧n ≤ 24∧okS rl cs len n∧0 ≤ a∧a < m∧m < b∧b ≤ n,.ret (.tup []),
   [some (.cells [.vs rl len .none] 25),some (.cells (onS rl cs fun lt l=>smg lt (b.toNat - a.toNat) a.toNat m.toNat b.toNat l) 3)])
 | _,_=>none
def y8r:List AV→Nat:=fun args=>match args with
 | [_,.int _ a,_,.int _ b,_]=>(b - a).toNat
 | _=>0
noncomputable def Tryz.B199 (k:Nat):Base:=((Tryz.B124.hk 218 (z3c 2 x63)).hk 199 (z3c 2 (R199.belowM y8r k)))
def x7v:List (Nat × List Nat):=[(3,[0,1,4,10,11]),(8,[0,1,10]),(9,[0,10,13]),(12,[0,1,2,3,4]),(15,[0,2,4,14,15]),(20,[0,2,14]),(21,[0,14,17]),(24,[0,1,2,3,4]),(33,[0,1,2,3,4,18,19,20,21,22]),(38,[0,1,2,3,4,18,19,20]),(41,[0,1,3,4,18,20,24]),(43,[0,3,4,18,24])]
noncomputable def Tryz.X199 (k:Nat):WCx:=(Tryz.B199 k).wcxP 2 [] x7v [1] [41,43]
theorem w6o (k n c:Nat) (a m b:Int) (rl cs:List AV) (Q:CR→List (Option HB)→Prop):wpS (Tryz.X199 k) 199 [.row 1 0 n c,I a,I m,I b,.fn (.func 124) [] [.ptr 0 0]] [some (.cells rl 25),some (.cells cs 3)] Q =
 (cIf (IntKind.i64.wrap (m - a) == (1:Int)) (z0l (Tryz.X199 k) (cd (Tryz.X199 k).P 199 [0,1,0,1,1,0,0,0]) ([AV.row 1 0 n c,I a,X,X,AV.fn (Fn.func 124) [] [AV.ptr 0 0],X,X,X,X,X,I m,I b]++List.replicate 208 X) (St.mk [some (HB.cells rl 25),some (HB.cells cs 3)] [] []) (z0d 0 (z0i (Tryz.X199 k) (cd (Tryz.X199 k).P 199 [0,1,0,1,1,1]) (z0i (Tryz.X199 k) (cd (Tryz.X199 k).P 199 [1]) (z0s (Tryz.X199 k) 199 Q))))) (cIf (IntKind.i64.wrap (b - m) == (1:Int)) (z0l (Tryz.X199 k) (cd (Tryz.X199 k).P 199 [1,0,1,0,1,1,0,0,0]) ([AV.row 1 0 n c,X,I m,X,AV.fn (Fn.func 124) [] [AV.ptr 0 0],X,X,X,X,X,X,X,X,X,I a,I m]++List.replicate 204 X) (St.mk [some (HB.cells rl 25),some (HB.cells cs 3)] [] []) (z0d 4 (z0i (Tryz.X199 k) (cd (Tryz.X199 k).P 199 [1,0,1,0,1,1,1]) (z0i (Tryz.X199 k) (cd (Tryz.X199 k).P 199 [1,1]) (z0s (Tryz.X199 k) 199 Q))))) (cIf (decide (m > IntKind.i64.wrap ((IntKind.u64.wrap (IntKind.i64.wrap (a + b))).fdiv ((2:Int) ^ min 1 IntKind.u64.bits)))) (z0l (Tryz.X199 k) (cd (Tryz.X199 k).P 199 [1,1,1,1,1,1,1,0,0,0]) ([AV.row 1 0 n c,I a,I m,I b,AV.fn (Fn.func 124) [] [AV.ptr 0 0],X,X,X,X,X,X,X,X,X,X,X,X,X,I (IntKind.i64.wrap ((IntKind.u64.wrap (IntKind.i64.wrap (a + b))).fdiv ((2:Int) ^ min 1 IntKind.u64.bits))),I (IntKind.i64.wrap (IntKind.i64.wrap ((IntKind.u64.wrap (IntKind.i64.wrap (a + b))).fdiv ((2:Int) ^ min 1 IntKind.u64.bits)) + m)),I (IntKind.i64.wrap (IntKind.i64.wrap (IntKind.i64.wrap ((IntKind.u64.wrap (IntKind.i64.wrap (a + b))).fdiv ((2:Int) ^ min 1 IntKind.u64.bits)) + m) - b)),I (IntKind.i64.wrap ((IntKind.u64.wrap (IntKind.i64.wrap (a + b))).fdiv ((2:Int) ^ min 1 IntKind.u64.bits))),I (IntKind.i64.wrap (IntKind.i64.wrap (IntKind.i64.wrap ((IntKind.u64.wrap (IntKind.i64.wrap (a + b))).fdiv ((2:Int) ^ min 1 IntKind.u64.bits)) + m) - (1:Int)))]++List.replicate 197 X) (St.mk [some (HB.cells rl 25),some (HB.cells cs 3)] [] []) (z0d 8 (z0i (Tryz.X199 k) (cd (Tryz.X199 k).P 199 [1,1,1,1,1,1,1,1]) (z0s (Tryz.X199 k) 199 Q)))) (z0l (Tryz.X199 k) (cd (Tryz.X199 k).P 199 [1,1,1,1,1,1,1,0,0,0]) ([AV.row 1 0 n c,I a,I m,I b,AV.fn (Fn.func 124) [] [AV.ptr 0 0],X,X,X,X,X,X,X,X,X,X,X,X,X,I (IntKind.i64.wrap ((IntKind.u64.wrap (IntKind.i64.wrap (a + b))).fdiv ((2:Int) ^ min 1 IntKind.u64.bits))),I (IntKind.i64.wrap (IntKind.i64.wrap ((IntKind.u64.wrap (IntKind.i64.wrap (a + b))).fdiv ((2:Int) ^ min 1 IntKind.u64.bits)) + m)),I a,I m,I (IntKind.i64.wrap (IntKind.i64.wrap (IntKind.i64.wrap ((IntKind.u64.wrap (IntKind.i64.wrap (a + b))).fdiv ((2:Int) ^ min 1 IntKind.u64.bits)) + m) - (1:Int)))]++List.replicate 197 X) (St.mk [some (HB.cells rl 25),some (HB.cells cs 3)] [] []) (z0d 8 (z0i (Tryz.X199 k) (cd (Tryz.X199 k).P 199 [1,1,1,1,1,1,1,1]) (z0s (Tryz.X199 k) 199 Q))))))):=by kernel_rfl
theorem x7f (k n c:Nat) (a i j:Int) (l cs:List AV) (len:Nat) (Q:CR→List (Option HB)→Prop):wpC (Tryz.X199 k) (cd PP 199 [0,1,0,1,1,0,0,0]) ([.row 1 0 n c,I a,X,X,.fn (.func 124) [] [.ptr 0 0],X,X,X,X,X,I i,I j]++List.replicate 208 X) ⟨[some (.cells [.vs l len .none] 25),some (.cells cs 3)],[],[]⟩ (z0r (Tryz.X199 k) (cd PP 199 [0,1,0,1,1,0,0,0]) (z0d 0 (z0i (Tryz.X199 k) (cd PP 199 [0,1,0,1,1,1]) (z0i (Tryz.X199 k) (cd PP 199 [1]) (z0s (Tryz.X199 k) 199 Q))))) =
 (cIf (decide (i < j)) (cIf (decide ((0:Int) ≤ IntKind.i64.wrap ((IntKind.u64.wrap (IntKind.i64.wrap (i + j))).fdiv ((2:Int) ^ min 1 IntKind.u64.bits)))) (cIf (decide ((IntKind.i64.wrap ((IntKind.u64.wrap (IntKind.i64.wrap (i + j))).fdiv ((2:Int) ^ min 1 IntKind.u64.bits))).toNat < n)) (cIf (decide (0 + (IntKind.i64.wrap ((IntKind.u64.wrap (IntKind.i64.wrap (i + j))).fdiv ((2:Int) ^ min 1 IntKind.u64.bits))).toNat * 1 < cs.length)) (cIf (z1g (AV.ofVal (Value.int IntKind.i64 (0:Int))) (cs.getD (0 + (IntKind.i64.wrap ((IntKind.u64.wrap (IntKind.i64.wrap (i + j))).fdiv ((2:Int) ^ min 1 IntKind.u64.bits))).toNat * 1) X)) (cIf (decide ((0:Int) ≤ a)) (cIf (decide (a.toNat < n)) (cIf (decide (0 + a.toNat * 1 < cs.length)) (cIf (z1g (AV.ofVal (Value.int IntKind.i64 (0:Int))) (cs.getD (0 + a.toNat * 1) X)) ((∃ (rs:List Rul),l = z0c rs∧len = rs.length∧z1j rs∧(0:Int) ≤ cI cs (0 + (IntKind.i64.wrap ((IntKind.u64.wrap (IntKind.i64.wrap (i + j))).fdiv ((2:Int) ^ min 1 IntKind.u64.bits))).toNat * 1)∧cI cs (0 + (IntKind.i64.wrap ((IntKind.u64.wrap (IntKind.i64.wrap (i + j))).fdiv ((2:Int) ^ min 1 IntKind.u64.bits))).toNat * 1) < (↑rs.length:Int)∧(0:Int) ≤ cI cs (0 + a.toNat * 1)∧cI cs (0 + a.toNat * 1) < (↑rs.length:Int))∧(y3k (rI (z0g z0c (fun (rs:List Rul)=>rkR rs (cI cs (0 + a.toNat * 1)).toNat - rkR rs (cI cs (0 + (IntKind.i64.wrap ((IntKind.u64.wrap (IntKind.i64.wrap (i + j))).fdiv ((2:Int) ^ min 1 IntKind.u64.bits))).toNat * 1)).toNat) (0:Int) l)) = true∧z4j (St.mk [some (HB.cells [AV.vs l len Tok.none] 25),some (HB.cells cs 3)] [] []).hs ([]++[AV.int IntKind.i64 (cI cs (0 + (IntKind.i64.wrap ((IntKind.u64.wrap (IntKind.i64.wrap (i + j))).fdiv ((2:Int) ^ min 1 IntKind.u64.bits))).toNat * 1)),I (cI cs (0 + a.toNat * 1))]++[AV.ptr 0 0]) = true)∧St.mk [some (HB.cells [AV.vs l len Tok.none] 25),some (HB.cells cs 3)] [] [] = St.mk [some (HB.cells [AV.vs l len Tok.none] 25),some (HB.cells cs 3)] [] []∧cIf (decide (z0g z0c (fun (rs:List Rul)=>rkR rs (cI cs (0 + a.toNat * 1)).toNat - rkR rs (cI cs (0 + (IntKind.i64.wrap ((IntKind.u64.wrap (IntKind.i64.wrap (i + j))).fdiv ((2:Int) ^ min 1 IntKind.u64.bits))).toNat * 1)).toNat) (0:Int) l < (0:Int))) (z0l (Tryz.X199 k) (cd PP 199 [0,1,0,1,1,0,0,0]) ([AV.row 1 0 n c,I a,X,X,AV.fn (Fn.func 124) [] [AV.ptr 0 0],X,X,X,X,X,I (IntKind.i64.wrap (IntKind.i64.wrap ((IntKind.u64.wrap (IntKind.i64.wrap (i + j))).fdiv ((2:Int) ^ min 1 IntKind.u64.bits)) + (1:Int))),I j]++List.replicate 208 X) (St.mk [some (HB.cells [AV.vs l len Tok.none] 25),some (HB.cells cs 3)] [] []) (z0d 0 (z0i (Tryz.X199 k) (cd PP 199 [0,1,0,1,1,1]) (z0i (Tryz.X199 k) (cd PP 199 [1]) (z0s (Tryz.X199 k) 199 Q))))) (z0l (Tryz.X199 k) (cd PP 199 [0,1,0,1,1,0,0,0]) ([AV.row 1 0 n c,I a,X,X,AV.fn (Fn.func 124) [] [AV.ptr 0 0],X,X,X,X,X,I i,I (IntKind.i64.wrap ((IntKind.u64.wrap (IntKind.i64.wrap (i + j))).fdiv ((2:Int) ^ min 1 IntKind.u64.bits)))]++List.replicate 208 X) (St.mk [some (HB.cells [AV.vs l len Tok.none] 25),some (HB.cells cs 3)] [] []) (z0d 0 (z0i (Tryz.X199 k) (cd PP 199 [0,1,0,1,1,1]) (z0i (Tryz.X199 k) (cd PP 199 [1]) (z0s (Tryz.X199 k) 199 Q)))))) False) False) False) False) False) False) False) False) (z0l (Tryz.X199 k) (cd PP 199 [0,1,0,1,1,1,0,1,0,0]) ([AV.row 1 0 n c,X,X,X,X,X,X,X,X,X,I i,X,X,I a]++List.replicate 206 X) (St.mk [some (HB.cells [AV.vs l len Tok.none] 25),some (HB.cells cs 3)] [] []) (z0d 2 (z0i (Tryz.X199 k) (cd PP 199 [0,1,0,1,1,1,1]) (z0i (Tryz.X199 k) (cd PP 199 [1]) (z0s (Tryz.X199 k) 199 Q)))))):=by kernel_rfl
theorem x7e (k n c:Nat) (i j:Int) (rl cs:List AV) (Q:CR→List (Option HB)→Prop):wpC (Tryz.X199 k) (cd PP 199 [0,1,0,1,1,1,0,1,0,0]) ([.row 1 0 n c,X,X,X,X,X,X,X,X,X,I i,X,X,I j]++List.replicate 206 X) ⟨[some (.cells rl 25),some (.cells cs 3)],[],[]⟩ (z0r (Tryz.X199 k) (cd PP 199 [0,1,0,1,1,1,0,1,0,0]) (z0d 2 (z0i (Tryz.X199 k) (cd PP 199 [0,1,0,1,1,1,1]) (z0i (Tryz.X199 k) (cd PP 199 [1]) (z0s (Tryz.X199 k) 199 Q))))) =
 (cIf (decide (j < IntKind.i64.wrap (i - (1:Int)))) (cIf (decide ((0:Int) ≤ IntKind.i64.wrap (j + (1:Int)))) (cIf (decide ((IntKind.i64.wrap (j + (1:Int))).toNat < n)) (cIf (decide (0 + (IntKind.i64.wrap (j + (1:Int))).toNat * 1 < cs.length)) (cIf (z1g (AV.ofVal (Value.int IntKind.i64 (0:Int))) (cs.getD (0 + (IntKind.i64.wrap (j + (1:Int))).toNat * 1) X)) (cIf (decide ((0:Int) ≤ j)) (cIf (decide (j.toNat < n)) (cIf (decide (0 + j.toNat * 1 < cs.length)) (cIf (z1g (AV.ofVal (Value.int IntKind.i64 (0:Int))) (cs.getD (0 + j.toNat * 1) X)) (cIf (decide ((0:Int) ≤ j)) (cIf (decide (j.toNat < n)) (cIf (decide (0 + j.toNat * 1 + 1 ≤ cs.length)) (cIf (decide ((0:Int) ≤ IntKind.i64.wrap (j + (1:Int)))) (cIf (decide ((IntKind.i64.wrap (j + (1:Int))).toNat < n)) (cIf (decide (0 + (IntKind.i64.wrap (j + (1:Int))).toNat * 1 + 1 ≤ (z1y cs (0 + j.toNat * 1) [I (cI cs (0 + (IntKind.i64.wrap (j + (1:Int))).toNat * 1))]).length)) (z0l (Tryz.X199 k) (cd PP 199 [0,1,0,1,1,1,0,1,0,0]) ([AV.row 1 0 n c,X,X,X,X,X,X,X,X,X,I i,X,X,I (IntKind.i64.wrap (j + (1:Int)))]++List.replicate 206 X) (St.mk [some (HB.cells rl 25),some (HB.cells (z1y (z1y cs (0 + j.toNat * 1) [I (cI cs (0 + (IntKind.i64.wrap (j + (1:Int))).toNat * 1))]) (0 + (IntKind.i64.wrap (j + (1:Int))).toNat * 1) [I (cI cs (0 + j.toNat * 1))]) 3)] [] []) (z0d 2 (z0i (Tryz.X199 k) (cd PP 199 [0,1,0,1,1,1,1]) (z0i (Tryz.X199 k) (cd PP 199 [1]) (z0s (Tryz.X199 k) 199 Q))))) False) False) False) False) False) False) False) False) False) False) False) False) False) False) (cIf ((List.take (Tryz.X199 k).bs (St.mk [some (HB.cells rl 25),some (HB.cells cs 3)] [] []).hs).all (okBlk (Tryz.X199 k).bs)) (Q (CR.ret (AV.tup [])) [some (HB.cells (z0e 0 rl) 25),some (HB.cells (z0e 0 cs) 3)]) False)):=by kernel_rfl
theorem x7d (k n c:Nat) (m i j:Int) (l cs:List AV) (len:Nat) (Q:CR→List (Option HB)→Prop):wpC (Tryz.X199 k) (cd PP 199 [1,0,1,0,1,1,0,0,0]) ([.row 1 0 n c,X,I m,X,.fn (.func 124) [] [.ptr 0 0],X,X,X,X,X,X,X,X,X,I i,I j]++List.replicate 204 X) ⟨[some (.cells [.vs l len .none] 25),some (.cells cs 3)],[],[]⟩ (z0r (Tryz.X199 k) (cd PP 199 [1,0,1,0,1,1,0,0,0]) (z0d 4 (z0i (Tryz.X199 k) (cd PP 199 [1,0,1,0,1,1,1]) (z0i (Tryz.X199 k) (cd PP 199 [1,1]) (z0s (Tryz.X199 k) 199 Q))))) =
 (cIf (decide (i < j)) (cIf (decide ((0:Int) ≤ m)) (cIf (decide (m.toNat < n)) (cIf (decide (0 + m.toNat * 1 < cs.length)) (cIf (z1g (AV.ofVal (Value.int IntKind.i64 (0:Int))) (cs.getD (0 + m.toNat * 1) X)) (cIf (decide ((0:Int) ≤ IntKind.i64.wrap ((IntKind.u64.wrap (IntKind.i64.wrap (i + j))).fdiv ((2:Int) ^ min 1 IntKind.u64.bits)))) (cIf (decide ((IntKind.i64.wrap ((IntKind.u64.wrap (IntKind.i64.wrap (i + j))).fdiv ((2:Int) ^ min 1 IntKind.u64.bits))).toNat < n)) (cIf (decide (0 + (IntKind.i64.wrap ((IntKind.u64.wrap (IntKind.i64.wrap (i + j))).fdiv ((2:Int) ^ min 1 IntKind.u64.bits))).toNat * 1 < cs.length)) (cIf (z1g (AV.ofVal (Value.int IntKind.i64 (0:Int))) (cs.getD (0 + (IntKind.i64.wrap ((IntKind.u64.wrap (IntKind.i64.wrap (i + j))).fdiv ((2:Int) ^ min 1 IntKind.u64.bits))).toNat * 1) X)) ((∃ (rs:List Rul),l = z0c rs∧len = rs.length∧z1j rs∧(0:Int) ≤ cI cs (0 + m.toNat * 1)∧cI cs (0 + m.toNat * 1) < (↑rs.length:Int)∧(0:Int) ≤ cI cs (0 + (IntKind.i64.wrap ((IntKind.u64.wrap (IntKind.i64.wrap (i + j))).fdiv ((2:Int) ^ min 1 IntKind.u64.bits))).toNat * 1)∧cI cs (0 + (IntKind.i64.wrap ((IntKind.u64.wrap (IntKind.i64.wrap (i + j))).fdiv ((2:Int) ^ min 1 IntKind.u64.bits))).toNat * 1) < (↑rs.length:Int))∧(y3k (rI (z0g z0c (fun (rs:List Rul)=>rkR rs (cI cs (0 + (IntKind.i64.wrap ((IntKind.u64.wrap (IntKind.i64.wrap (i + j))).fdiv ((2:Int) ^ min 1 IntKind.u64.bits))).toNat * 1)).toNat - rkR rs (cI cs (0 + m.toNat * 1)).toNat) (0:Int) l)) = true∧z4j (St.mk [some (HB.cells [AV.vs l len Tok.none] 25),some (HB.cells cs 3)] [] []).hs ([]++[I (cI cs (0 + m.toNat * 1)),AV.int IntKind.i64 (cI cs (0 + (IntKind.i64.wrap ((IntKind.u64.wrap (IntKind.i64.wrap (i + j))).fdiv ((2:Int) ^ min 1 IntKind.u64.bits))).toNat * 1))]++[AV.ptr 0 0]) = true)∧St.mk [some (HB.cells [AV.vs l len Tok.none] 25),some (HB.cells cs 3)] [] [] = St.mk [some (HB.cells [AV.vs l len Tok.none] 25),some (HB.cells cs 3)] [] []∧cIf (!decide (z0g z0c (fun (rs:List Rul)=>rkR rs (cI cs (0 + (IntKind.i64.wrap ((IntKind.u64.wrap (IntKind.i64.wrap (i + j))).fdiv ((2:Int) ^ min 1 IntKind.u64.bits))).toNat * 1)).toNat - rkR rs (cI cs (0 + m.toNat * 1)).toNat) (0:Int) l < (0:Int))) (z0l (Tryz.X199 k) (cd PP 199 [1,0,1,0,1,1,0,0,0]) ([AV.row 1 0 n c,X,I m,X,AV.fn (Fn.func 124) [] [AV.ptr 0 0],X,X,X,X,X,X,X,X,X,I (IntKind.i64.wrap (IntKind.i64.wrap ((IntKind.u64.wrap (IntKind.i64.wrap (i + j))).fdiv ((2:Int) ^ min 1 IntKind.u64.bits)) + (1:Int))),I j]++List.replicate 204 X) (St.mk [some (HB.cells [AV.vs l len Tok.none] 25),some (HB.cells cs 3)] [] []) (z0d 4 (z0i (Tryz.X199 k) (cd PP 199 [1,0,1,0,1,1,1]) (z0i (Tryz.X199 k) (cd PP 199 [1,1]) (z0s (Tryz.X199 k) 199 Q))))) (z0l (Tryz.X199 k) (cd PP 199 [1,0,1,0,1,1,0,0,0]) ([AV.row 1 0 n c,X,I m,X,AV.fn (Fn.func 124) [] [AV.ptr 0 0],X,X,X,X,X,X,X,X,X,I i,I (IntKind.i64.wrap ((IntKind.u64.wrap (IntKind.i64.wrap (i + j))).fdiv ((2:Int) ^ min 1 IntKind.u64.bits)))]++List.replicate 204 X) (St.mk [some (HB.cells [AV.vs l len Tok.none] 25),some (HB.cells cs 3)] [] []) (z0d 4 (z0i (Tryz.X199 k) (cd PP 199 [1,0,1,0,1,1,1]) (z0i (Tryz.X199 k) (cd PP 199 [1,1]) (z0s (Tryz.X199 k) 199 Q)))))) False) False) False) False) False) False) False) False) (z0l (Tryz.X199 k) (cd PP 199 [1,0,1,0,1,1,1,0,1,0,0]) ([AV.row 1 0 n c,X,X,X,X,X,X,X,X,X,X,X,X,X,I i,X,X,I m]++List.replicate 202 X) (St.mk [some (HB.cells [AV.vs l len Tok.none] 25),some (HB.cells cs 3)] [] []) (z0d 6 (z0i (Tryz.X199 k) (cd PP 199 [1,0,1,0,1,1,1,1]) (z0i (Tryz.X199 k) (cd PP 199 [1,1]) (z0s (Tryz.X199 k) 199 Q)))))):=by kernel_rfl
theorem x7c (k n c:Nat) (i j:Int) (rl cs:List AV) (Q:CR→List (Option HB)→Prop):wpC (Tryz.X199 k) (cd PP 199 [1,0,1,0,1,1,1,0,1,0,0]) ([.row 1 0 n c,X,X,X,X,X,X,X,X,X,X,X,X,X,I i,X,X,I j]++List.replicate 202 X) ⟨[some (.cells rl 25),some (.cells cs 3)],[],[]⟩ (z0r (Tryz.X199 k) (cd PP 199 [1,0,1,0,1,1,1,0,1,0,0]) (z0d 6 (z0i (Tryz.X199 k) (cd PP 199 [1,0,1,0,1,1,1,1]) (z0i (Tryz.X199 k) (cd PP 199 [1,1]) (z0s (Tryz.X199 k) 199 Q))))) =
 (cIf (decide (j > i)) (cIf (decide ((0:Int) ≤ IntKind.i64.wrap (j - (1:Int)))) (cIf (decide ((IntKind.i64.wrap (j - (1:Int))).toNat < n)) (cIf (decide (0 + (IntKind.i64.wrap (j - (1:Int))).toNat * 1 < cs.length)) (cIf (z1g (AV.ofVal (Value.int IntKind.i64 (0:Int))) (cs.getD (0 + (IntKind.i64.wrap (j - (1:Int))).toNat * 1) X)) (cIf (decide ((0:Int) ≤ j)) (cIf (decide (j.toNat < n)) (cIf (decide (0 + j.toNat * 1 < cs.length)) (cIf (z1g (AV.ofVal (Value.int IntKind.i64 (0:Int))) (cs.getD (0 + j.toNat * 1) X)) (cIf (decide ((0:Int) ≤ j)) (cIf (decide (j.toNat < n)) (cIf (decide (0 + j.toNat * 1 + 1 ≤ cs.length)) (cIf (decide ((0:Int) ≤ IntKind.i64.wrap (j - (1:Int)))) (cIf (decide ((IntKind.i64.wrap (j - (1:Int))).toNat < n)) (cIf (decide (0 + (IntKind.i64.wrap (j - (1:Int))).toNat * 1 + 1 ≤ (z1y cs (0 + j.toNat * 1) [I (cI cs (0 + (IntKind.i64.wrap (j - (1:Int))).toNat * 1))]).length)) (z0l (Tryz.X199 k) (cd PP 199 [1,0,1,0,1,1,1,0,1,0,0]) ([AV.row 1 0 n c,X,X,X,X,X,X,X,X,X,X,X,X,X,I i,X,X,I (IntKind.i64.wrap (j - (1:Int)))]++List.replicate 202 X) (St.mk [some (HB.cells rl 25),some (HB.cells (z1y (z1y cs (0 + j.toNat * 1) [I (cI cs (0 + (IntKind.i64.wrap (j - (1:Int))).toNat * 1))]) (0 + (IntKind.i64.wrap (j - (1:Int))).toNat * 1) [I (cI cs (0 + j.toNat * 1))]) 3)] [] []) (z0d 6 (z0i (Tryz.X199 k) (cd PP 199 [1,0,1,0,1,1,1,1]) (z0i (Tryz.X199 k) (cd PP 199 [1,1]) (z0s (Tryz.X199 k) 199 Q))))) False) False) False) False) False) False) False) False) False) False) False) False) False) False) (cIf ((List.take (Tryz.X199 k).bs (St.mk [some (HB.cells rl 25),some (HB.cells cs 3)] [] []).hs).all (okBlk (Tryz.X199 k).bs)) (Q (CR.ret (AV.tup [])) [some (HB.cells (z0e 0 rl) 25),some (HB.cells (z0e 0 cs) 3)]) False)):=by kernel_rfl
theorem x7b (k n c:Nat) (a m b mid nn s r p:Int) (l cs:List AV) (len:Nat) (Q:CR→List (Option HB)→Prop):wpC (Tryz.X199 k) (cd PP 199 [1,1,1,1,1,1,1,0,0,0]) ([.row 1 0 n c,I a,I m,I b,.fn (.func 124) [] [.ptr 0 0],X,X,X,X,X,X,X,X,X,X,X,X,X,I mid,I nn,I s,I r,I p]++List.replicate 197 X) ⟨[some (.cells [.vs l len .none] 25),some (.cells cs 3)],[],[]⟩ (z0r (Tryz.X199 k) (cd PP 199 [1,1,1,1,1,1,1,0,0,0]) (z0d 8 (z0i (Tryz.X199 k) (cd PP 199 [1,1,1,1,1,1,1,1]) (z0s (Tryz.X199 k) 199 Q)))) =
 (cIf (decide (s < r)) (cIf (decide ((0:Int) ≤ IntKind.i64.wrap (p - IntKind.i64.wrap ((IntKind.u64.wrap (IntKind.i64.wrap (s + r))).fdiv ((2:Int) ^ min 1 IntKind.u64.bits))))) (cIf (decide ((IntKind.i64.wrap (p - IntKind.i64.wrap ((IntKind.u64.wrap (IntKind.i64.wrap (s + r))).fdiv ((2:Int) ^ min 1 IntKind.u64.bits)))).toNat < n)) (cIf (decide (0 + (IntKind.i64.wrap (p - IntKind.i64.wrap ((IntKind.u64.wrap (IntKind.i64.wrap (s + r))).fdiv ((2:Int) ^ min 1 IntKind.u64.bits)))).toNat * 1 < cs.length)) (cIf (z1g (AV.ofVal (Value.int IntKind.i64 (0:Int))) (cs.getD (0 + (IntKind.i64.wrap (p - IntKind.i64.wrap ((IntKind.u64.wrap (IntKind.i64.wrap (s + r))).fdiv ((2:Int) ^ min 1 IntKind.u64.bits)))).toNat * 1) X)) (cIf (decide ((0:Int) ≤ IntKind.i64.wrap ((IntKind.u64.wrap (IntKind.i64.wrap (s + r))).fdiv ((2:Int) ^ min 1 IntKind.u64.bits)))) (cIf (decide ((IntKind.i64.wrap ((IntKind.u64.wrap (IntKind.i64.wrap (s + r))).fdiv ((2:Int) ^ min 1 IntKind.u64.bits))).toNat < n)) (cIf (decide (0 + (IntKind.i64.wrap ((IntKind.u64.wrap (IntKind.i64.wrap (s + r))).fdiv ((2:Int) ^ min 1 IntKind.u64.bits))).toNat * 1 < cs.length)) (cIf (z1g (AV.ofVal (Value.int IntKind.i64 (0:Int))) (cs.getD (0 + (IntKind.i64.wrap ((IntKind.u64.wrap (IntKind.i64.wrap (s + r))).fdiv ((2:Int) ^ min 1 IntKind.u64.bits))).toNat * 1) X)) ((∃ (rs:List Rul),l = z0c rs∧len = rs.length∧z1j rs∧(0:Int) ≤ cI cs (0 + (IntKind.i64.wrap (p - IntKind.i64.wrap ((IntKind.u64.wrap (IntKind.i64.wrap (s + r))).fdiv ((2:Int) ^ min 1 IntKind.u64.bits)))).toNat * 1)∧cI cs (0 + (IntKind.i64.wrap (p - IntKind.i64.wrap ((IntKind.u64.wrap (IntKind.i64.wrap (s + r))).fdiv ((2:Int) ^ min 1 IntKind.u64.bits)))).toNat * 1) < (↑rs.length:Int)∧(0:Int) ≤ cI cs (0 + (IntKind.i64.wrap ((IntKind.u64.wrap (IntKind.i64.wrap (s + r))).fdiv ((2:Int) ^ min 1 IntKind.u64.bits))).toNat * 1)∧cI cs (0 + (IntKind.i64.wrap ((IntKind.u64.wrap (IntKind.i64.wrap (s + r))).fdiv ((2:Int) ^ min 1 IntKind.u64.bits))).toNat * 1) < (↑rs.length:Int))∧(y3k (rI (z0g z0c (fun (rs:List Rul)=>rkR rs (cI cs (0 + (IntKind.i64.wrap ((IntKind.u64.wrap (IntKind.i64.wrap (s + r))).fdiv ((2:Int) ^ min 1 IntKind.u64.bits))).toNat * 1)).toNat - rkR rs (cI cs (0 + (IntKind.i64.wrap (p - IntKind.i64.wrap ((IntKind.u64.wrap (IntKind.i64.wrap (s + r))).fdiv ((2:Int) ^ min 1 IntKind.u64.bits)))).toNat * 1)).toNat) (0:Int) l)) = true∧z4j (St.mk [some (HB.cells [AV.vs l len Tok.none] 25),some (HB.cells cs 3)] [] []).hs ([]++[AV.int IntKind.i64 (cI cs (0 + (IntKind.i64.wrap (p - IntKind.i64.wrap ((IntKind.u64.wrap (IntKind.i64.wrap (s + r))).fdiv ((2:Int) ^ min 1 IntKind.u64.bits)))).toNat * 1)),AV.int IntKind.i64 (cI cs (0 + (IntKind.i64.wrap ((IntKind.u64.wrap (IntKind.i64.wrap (s + r))).fdiv ((2:Int) ^ min 1 IntKind.u64.bits))).toNat * 1))]++[AV.ptr 0 0]) = true)∧St.mk [some (HB.cells [AV.vs l len Tok.none] 25),some (HB.cells cs 3)] [] [] = St.mk [some (HB.cells [AV.vs l len Tok.none] 25),some (HB.cells cs 3)] [] []∧cIf (!decide (z0g z0c (fun (rs:List Rul)=>rkR rs (cI cs (0 + (IntKind.i64.wrap ((IntKind.u64.wrap (IntKind.i64.wrap (s + r))).fdiv ((2:Int) ^ min 1 IntKind.u64.bits))).toNat * 1)).toNat - rkR rs (cI cs (0 + (IntKind.i64.wrap (p - IntKind.i64.wrap ((IntKind.u64.wrap (IntKind.i64.wrap (s + r))).fdiv ((2:Int) ^ min 1 IntKind.u64.bits)))).toNat * 1)).toNat) (0:Int) l < (0:Int))) (z0l (Tryz.X199 k) (cd PP 199 [1,1,1,1,1,1,1,0,0,0]) ([AV.row 1 0 n c,I a,I m,I b,AV.fn (Fn.func 124) [] [AV.ptr 0 0],X,X,X,X,X,X,X,X,X,X,X,X,X,I mid,I nn,I (IntKind.i64.wrap (IntKind.i64.wrap ((IntKind.u64.wrap (IntKind.i64.wrap (s + r))).fdiv ((2:Int) ^ min 1 IntKind.u64.bits)) + (1:Int))),I r,I p]++List.replicate 197 X) (St.mk [some (HB.cells [AV.vs l len Tok.none] 25),some (HB.cells cs 3)] [] []) (z0d 8 (z0i (Tryz.X199 k) (cd PP 199 [1,1,1,1,1,1,1,1]) (z0s (Tryz.X199 k) 199 Q)))) (z0l (Tryz.X199 k) (cd PP 199 [1,1,1,1,1,1,1,0,0,0]) ([AV.row 1 0 n c,I a,I m,I b,AV.fn (Fn.func 124) [] [AV.ptr 0 0],X,X,X,X,X,X,X,X,X,X,X,X,X,I mid,I nn,I s,I (IntKind.i64.wrap ((IntKind.u64.wrap (IntKind.i64.wrap (s + r))).fdiv ((2:Int) ^ min 1 IntKind.u64.bits))),I p]++List.replicate 197 X) (St.mk [some (HB.cells [AV.vs l len Tok.none] 25),some (HB.cells cs 3)] [] []) (z0d 8 (z0i (Tryz.X199 k) (cd PP 199 [1,1,1,1,1,1,1,1]) (z0s (Tryz.X199 k) 199 Q))))) False) False) False) False) False) False) False) False) (cIf (decide (s < m)) (cIf (decide (m < IntKind.i64.wrap (nn - s))) ((25 = (25:TypeId)∧3 = (3:TypeId)∧z92 [AV.vs l len Tok.none]∧n ≤ 24∧(∃ (l:List Nat),cs = encD l∧l.length = n)∧(0:Int) ≤ s∧s < m∧m < IntKind.i64.wrap (nn - s)∧IntKind.i64.wrap (nn - s) ≤ (↑n:Int))∧(noHL 2 ([]++[AV.row 1 0 n c,I s,I m,I (IntKind.i64.wrap (nn - s)),AV.fn (Fn.func 124) [] [AV.ptr 0 0]]++[]) = true∧(List.take 2 (St.mk [some (HB.cells [AV.vs l len Tok.none] 25),some (HB.cells cs 3)] [] []).hs).all (z1i 2) = true∧[some (HB.cells [AV.vs l len Tok.none] (25:TypeId)),some (HB.cells (encD (z0g encD (fun (l:List Nat)=>y53 s.toNat m.toNat (IntKind.i64.wrap (nn - s)).toNat l) [] cs)) (3:TypeId))].length = 2∧2 ≤ (St.mk [some (HB.cells [AV.vs l len Tok.none] 25),some (HB.cells cs 3)] [] []).hs.length)∧z0k (Tryz.X199 k) (cd PP 199 [1,1,1,1,1,1,1,1,1,1]) ([AV.row 1 0 n c,I a,X,I b,AV.fn (Fn.func 124) [] [AV.ptr 0 0],X,X,X,X,X,X,X,X,X,X,X,X,X,I mid,X,I s,X,X,X,I (IntKind.i64.wrap (nn - s))]++List.replicate 195 X) (St.mk [some (HB.cells [AV.vs l len Tok.none] 25),some (HB.cells (encD (z0g encD (fun (l:List Nat)=>y53 s.toNat m.toNat (IntKind.i64.wrap (nn - s)).toNat l) [] cs)) 3)] [] []) (z0s (Tryz.X199 k) 199 Q)) (z0k (Tryz.X199 k) (cd PP 199 [1,1,1,1,1,1,1,1,1,1]) ([AV.row 1 0 n c,I a,X,I b,AV.fn (Fn.func 124) [] [AV.ptr 0 0],X,X,X,X,X,X,X,X,X,X,X,X,X,I mid,X,I s,X,X,X,I (IntKind.i64.wrap (nn - s))]++List.replicate 195 X) (St.mk [some (HB.cells [AV.vs l len Tok.none] 25),some (HB.cells cs 3)] [] []) (z0s (Tryz.X199 k) 199 Q))) (z0k (Tryz.X199 k) (cd PP 199 [1,1,1,1,1,1,1,1,1,1]) ([AV.row 1 0 n c,I a,X,I b,AV.fn (Fn.func 124) [] [AV.ptr 0 0],X,X,X,X,X,X,X,X,X,X,X,X,X,I mid,X,I s,X,X,X,I (IntKind.i64.wrap (nn - s))]++List.replicate 195 X) (St.mk [some (HB.cells [AV.vs l len Tok.none] 25),some (HB.cells cs 3)] [] []) (z0s (Tryz.X199 k) 199 Q)))):=by kernel_rfl
theorem w29 (k n c:Nat) (a b mid s en:Int) (l cs:List AV) (len:Nat) (Q:CR→List (Option HB)→Prop):wpC (Tryz.X199 k) (cd PP 199 [1,1,1,1,1,1,1,1,1,1]) ([.row 1 0 n c,I a,X,I b,.fn (.func 124) [] [.ptr 0 0],X,X,X,X,X,X,X,X,X,X,X,X,X,I mid,X,I s,X,X,X,I en]++List.replicate 195 X) ⟨[some (.cells [.vs l len .none] 25),some (.cells cs 3)],[],[]⟩ (z0s (Tryz.X199 k) 199 Q) =
 (cIf (decide (a < s)) (cIf (decide (s < mid)) (((25 = (25:TypeId)∧3 = (3:TypeId)∧n ≤ 24∧okS l cs len n∧(0:Int) ≤ a∧a < s∧s < mid∧mid ≤ (↑n:Int))∧y8r ([]++[AV.row 1 0 n c,I a,I s,I mid,AV.fn (Fn.func 124) [] [AV.ptr 0 0]]++[]) < k)∧(noHL 2 ([]++[AV.row 1 0 n c,I a,I s,I mid,AV.fn (Fn.func 124) [] [AV.ptr 0 0]]++[]) = true∧(List.take 2 (St.mk [some (HB.cells [AV.vs l len Tok.none] 25),some (HB.cells cs 3)] [] []).hs).all (z1i 2) = true∧[some (HB.cells [AV.vs l len Tok.none] (25:TypeId)),some (HB.cells (onS l cs fun (lt:Nat→Nat→Bool) (l:List Nat)=>smg lt (mid.toNat - a.toNat) a.toNat s.toNat mid.toNat l) (3:TypeId))].length = 2∧2 ≤ (St.mk [some (HB.cells [AV.vs l len Tok.none] 25),some (HB.cells cs 3)] [] []).hs.length)∧z0k (Tryz.X199 k) (cd PP 199 [1,1,1,1,1,1,1,1,1,1,1]) ([AV.row 1 0 n c,X,X,I b,AV.fn (Fn.func 124) [] [AV.ptr 0 0],X,X,X,X,X,X,X,X,X,X,X,X,X,I mid,X,X,X,X,X,I en]++List.replicate 195 X) (St.mk [some (HB.cells [AV.vs l len Tok.none] 25),some (HB.cells (onS l cs fun (lt:Nat→Nat→Bool) (l:List Nat)=>smg lt (mid.toNat - a.toNat) a.toNat s.toNat mid.toNat l) 3)] [] []) (z0s (Tryz.X199 k) 199 Q)) (z0k (Tryz.X199 k) (cd PP 199 [1,1,1,1,1,1,1,1,1,1,1]) ([AV.row 1 0 n c,X,X,I b,AV.fn (Fn.func 124) [] [AV.ptr 0 0],X,X,X,X,X,X,X,X,X,X,X,X,X,I mid,X,X,X,X,X,I en]++List.replicate 195 X) (St.mk [some (HB.cells [AV.vs l len Tok.none] 25),some (HB.cells cs 3)] [] []) (z0s (Tryz.X199 k) 199 Q))) (z0k (Tryz.X199 k) (cd PP 199 [1,1,1,1,1,1,1,1,1,1,1]) ([AV.row 1 0 n c,X,X,I b,AV.fn (Fn.func 124) [] [AV.ptr 0 0],X,X,X,X,X,X,X,X,X,X,X,X,X,I mid,X,X,X,X,X,I en]++List.replicate 195 X) (St.mk [some (HB.cells [AV.vs l len Tok.none] 25),some (HB.cells cs 3)] [] []) (z0s (Tryz.X199 k) 199 Q))):=by kernel_rfl
theorem w28 (k n c:Nat) (b mid en:Int) (l cs:List AV) (len:Nat) (Q:CR→List (Option HB)→Prop):wpC (Tryz.X199 k) (cd PP 199 [1,1,1,1,1,1,1,1,1,1,1]) ([.row 1 0 n c,X,X,I b,.fn (.func 124) [] [.ptr 0 0],X,X,X,X,X,X,X,X,X,X,X,X,X,I mid,X,X,X,X,X,I en]++List.replicate 195 X) ⟨[some (.cells [.vs l len .none] 25),some (.cells cs 3)],[],[]⟩ (z0s (Tryz.X199 k) 199 Q) =
 (cIf (decide (mid < en)) (cIf (decide (en < b)) (((25 = (25:TypeId)∧3 = (3:TypeId)∧n ≤ 24∧okS l cs len n∧(0:Int) ≤ mid∧mid < en∧en < b∧b ≤ (↑n:Int))∧y8r ([]++[AV.row 1 0 n c,I mid,I en,I b,AV.fn (Fn.func 124) [] [AV.ptr 0 0]]++[]) < k)∧(noHL 2 ([]++[AV.row 1 0 n c,I mid,I en,I b,AV.fn (Fn.func 124) [] [AV.ptr 0 0]]++[]) = true∧(List.take 2 (St.mk [some (HB.cells [AV.vs l len Tok.none] 25),some (HB.cells cs 3)] [] []).hs).all (z1i 2) = true∧[some (HB.cells [AV.vs l len Tok.none] (25:TypeId)),some (HB.cells (onS l cs fun (lt:Nat→Nat→Bool) (l:List Nat)=>smg lt (b.toNat - mid.toNat) mid.toNat en.toNat b.toNat l) (3:TypeId))].length = 2∧2 ≤ (St.mk [some (HB.cells [AV.vs l len Tok.none] 25),some (HB.cells cs 3)] [] []).hs.length)∧cIf ((List.take (Tryz.X199 k).bs (St.mk [some (HB.cells [AV.vs l len Tok.none] 25),some (HB.cells (onS l cs fun (lt:Nat→Nat→Bool) (l:List Nat)=>smg lt (b.toNat - mid.toNat) mid.toNat en.toNat b.toNat l) 3)] [] [1,0]).hs).all (okBlk (Tryz.X199 k).bs)) (Q (CR.ret (AV.tup [])) [some (HB.cells [AV.vs (z0e 0 l) len Tok.none] 25),some (HB.cells (z0e 0 (onS l cs fun (lt:Nat→Nat→Bool) (l:List Nat)=>smg lt (b.toNat - mid.toNat) mid.toNat en.toNat b.toNat l)) 3)]) False) (cIf ((List.take (Tryz.X199 k).bs (St.mk [some (HB.cells [AV.vs l len Tok.none] 25),some (HB.cells cs 3)] [] []).hs).all (okBlk (Tryz.X199 k).bs)) (Q (CR.ret (AV.tup [])) [some (HB.cells [AV.vs (z0e 0 l) len Tok.none] 25),some (HB.cells (z0e 0 cs) 3)]) False)) (cIf ((List.take (Tryz.X199 k).bs (St.mk [some (HB.cells [AV.vs l len Tok.none] 25),some (HB.cells cs 3)] [] []).hs).all (okBlk (Tryz.X199 k).bs)) (Q (CR.ret (AV.tup [])) [some (HB.cells [AV.vs (z0e 0 l) len Tok.none] 25),some (HB.cells (z0e 0 cs) 3)]) False)):=by kernel_rfl
end Go.Proofs
set_option maxRecDepth 100000
set_option linter.unusedVariables false
namespace Go.Ev
theorem z9f {l:List Nat} {j:Nat} (h:j < l.length):gN l j ∈ l:=by
 simp only [gN,List.getD_eq_getElem?_getD,List.getElem?_eq_getElem h,Option.getD_some]
 exact List.getElem_mem h
theorem w0t {l:List Nat} {i j m:Nat} (hi:i < l.length) (hj:j < l.length) (h:∀ x ∈ l,x < m):∀ x ∈ sw l i j,x < m:=fun x hx=>h x ((y1t hi hj).mem_iff.1 hx)
theorem y0s {l l':List Nat} {m:Nat} (hp:l'.Perm l) (h:∀ x ∈ l,x < m):∀ x ∈ l',x < m:=fun x hx=>h x (hp.mem_iff.1 hx)
theorem wH {a b:Nat} (h:a + b ≤ 1000):IntKind.i64.wrap ((IntKind.u64.wrap (IntKind.i64.wrap ((a:Int) + (b:Int)))).fdiv ((2:Int) ^ min 1 IntKind.u64.bits)) = (((a + b) / 2:Nat):Int):=by
 rw [wA (by omega)]
 have h1:IntKind.u64.wrap ((a + b:Nat):Int) = ((a + b:Nat):Int):=by
  simp only [IntKind.wrap,IntKind.bits,IntKind.signed,Bool.false_and,Bool.false_eq_true,if_false]
  omega
 rw [h1,show (2:Int) ^ min 1 IntKind.u64.bits = 2 from rfl]
 have h2:(((a + b:Nat):Int)).fdiv 2 = (((a + b) / 2:Nat):Int):=by
  rw [Int.fdiv_eq_ediv_of_nonneg _ (by omega)]; omega
 rw [h2,z09 (by omega) (by omega)]
end Go.Ev
namespace Go.Proofs
open Go Go.Ev
theorem x0g:BaseOk Tryz.B232:=Tryz.bok.hk (ct232.hook Tryz.gtpB)
section
variable {n c:Nat} (hn:n ≤ 24) {rl:List AV} (hb:z92 rl) {Q:CR→List (Option HB)→Prop}
include hn hb
theorem y7h (l:List Nat) (x:List AV) (hx:noHL 2 x = true) (l':List Nat):noHL 2 ([]++x++[]) = true∧(List.take 2 (hsB rl l)).all (z1i 2) = true∧(hsB rl l').length = 2∧2 ≤ (hsB rl l).length :=
 have _:=hn
 ⟨by simpa using hx,by simpa using x2x hb l [],rfl,Nat.le_refl _⟩
theorem x5t {m:Nat}:∀ (f i j:Nat) (l:List Nat),0 < i→0 < j→i + j ≤ f→i ≤ m→m + j ≤ n→l.length = n→Q (.ret (.tup [])) (hsB rl (rot m f i j l)) →
  z0l Tryz.X218 (cd PP 218 [1,1,0,0,0]) ([.row 1 0 n c,X,I m,X,.fn (.func 124) [] [.ptr 0 0],X,X,X,X,X,I i,I j]++List.replicate 46 X) ⟨hsB rl l,[],[]⟩ (z0d 0 (z0i Tryz.X218 (cd PP 218 [1,1,1]) (z0s Tryz.X218 218 Q))):=by
 intro f
 induction f with
 | zero=>intro i j l h1 h2 h3; omega
 | succ f ih =>
  intro i j l h1 h2 h3 h4 h5 hl hQ
  refine z0n (C:=Tryz.X218) (z00 x0g (Cts.nil _)) (z1c x0g (Cts.nil _)) ((w27 n c m i j rl _ Q).mpr ?_)
  rw [wS (a:=m) (b:=i) h4 (by omega)]
  simp only [rot] at hQ
  refine z0h (fun hne=>?_) (fun heq=>?_)
  ·have hne:¬ i = j:=by
    intro h; subst h; simp at hne
   rw [if_neg hne] at hQ
   refine z0h (fun hgt=>?_) (fun hgt=>?_)
   ·have hgt:j < i:=by have:=of_decide_eq_true hgt; omega
    rw [if_pos hgt] at hQ
    rw [z0j z2n,wS (a:=i) (b:=j) (by omega) (by omega)]
    simp only [Int.toNat_natCast]
    refine ⟨⟨trivial,trivial,hb,hn,⟨l,rfl,hl⟩,by omega,by omega,by omega,by omega,by omega⟩,y7h hn hb l _ (by simp [noHL,noH]) _,?_⟩
    exact ih (i - j) j _ (by omega) h2 (by omega) (by omega) h5 (by rw [(z8z (by omega) (by omega)).length_eq]; exact hl) hQ
   ·have hgt:¬ j < i:=by have:=of_decide_eq_false hgt; omega
    rw [if_neg hgt] at hQ
    rw [z0j z2n,wA (a:=m) (b:=j) (by omega),wS (a:=m + j) (b:=i) (by omega) (by omega),wS (a:=j) (b:=i) (by omega) (by omega)]
    simp only [Int.toNat_natCast]
    refine ⟨⟨trivial,trivial,hb,hn,⟨l,rfl,hl⟩,by omega,by omega,by omega,by omega,by omega⟩,y7h hn hb l _ (by simp [noHL,noH]) _,?_⟩
    exact ih i (j - i) _ h1 (by omega) (by omega) (by omega) (by omega) (by rw [(z8z (by omega) (by omega)).length_eq]; exact hl) hQ
  ·have heq':(i:Int) = j:=by simpa using heq
   have heq:i = j:=by omega
   subst heq
   rw [if_pos rfl] at hQ
   rw [z0j z2n]
   simp only [Int.toNat_natCast]
   refine ⟨⟨trivial,trivial,hb,hn,⟨l,rfl,hl⟩,by omega,by omega,by omega,by omega,by omega⟩,y7h hn hb l _ (by simp [noHL,noH]) _,z0b (y39 hb _ []) ?_⟩
   rw [hb.2,z2x]
   exact hQ
end
theorem ct218:CtP Tryz.B.c0 218 2 x63 where
 body:=⟨_,_,Tryz.func218,rfl⟩
 ok:=fun args hs D r hs' hR hD hl=>by
  unfold x63 at hR
  split at hR <;> cases hR
  rename_i n c a m b rl rt cs ct
  obtain ⟨rfl,rfl,hb,hn,⟨l,rfl,hl'⟩,ha0,h1,h2,h3⟩:=hD
  obtain ⟨a,rfl⟩:∃ k:Nat,a = k:=⟨a.toNat,by omega⟩
  obtain ⟨b,rfl⟩:∃ k:Nat,b = k:=⟨b.toNat,by omega⟩
  obtain ⟨m,rfl⟩:∃ j:Nat,m = j:=⟨m.toNat,by omega⟩
  rw [y9z hb,z0j z2n]
  simp only [Int.toNat_natCast]
  refine z4p (B:=Tryz.B232) (l:=[]) (lm:=x7u) (tp:=[1]) (ct:=[]) (sm:=[]) (nb:=2) x0g (Cts.nil _) rfl ((v218 n c a m b rl _ _).mpr ?_)
  rw [wS (a:=m) (b:=a) (by omega) (by omega),wS (a:=b) (b:=m) (by omega) (by omega)]
  exact x5t hn hb (b - a) (m - a) (b - m) l (by omega) (by omega) (by omega) (by omega) (by omega) hl' ⟨rfl,rfl⟩
abbrev hsS (rs:List Rul) (l:List Nat):List (Option HB):=[some (.cells [.vs (z0c rs) rs.length .none] 25),some (.cells (encD l) 3)]
theorem z3k (rs:List Rul) (l:List Nat):hsS rs l = [some (.cells [.vs (z0c rs) rs.length .none] 25),some (.cells (encD l) 3)]:=rfl
theorem z4k (rs:List Rul):z92 [.vs (z0c rs) rs.length .none]:=by
 constructor
 ·simp [noHL,noH,z0t]
 ·simp [z0e,scrub,z1f,Tok.scrub]
theorem y4i (rs:List Rul) (l:List Nat) (x y:Int):z4j (hsS rs l) ([]++[I x,I y]++[AV.ptr 0 0]) = true:=by
 simp [z4j,y1h,noHL,noH,z0t,z3h,noT,y3s]
theorem z5r (rs:List Rul) (l:List Nat) (f:(Nat→Nat→Bool)→List Nat→List Nat):onS (z0c rs) (encD l) f = encD (f (ltR rs) l):=by
 unfold onS; rw [z0j z0u,z0j z2n]
theorem y4j (rs:List Rul) (x y:Nat):decide (rkR rs y - rkR rs x < 0) = ltR rs x y:=rfl
section
variable {n c:Nat} (hn:n ≤ 24) {rs:List Rul} (hrs:z1j rs) {Q:CR→List (Option HB)→Prop}
include hn hrs
theorem x4e {a b i:Nat} (hi:i < n):∀ (j:Nat) (l:List Nat),j ≤ i→l.length = n→(∀ x ∈ l,x < rs.length) →
  z0l Tryz.X198 (cd PP 198 [1,0,0]) ([.row 1 0 n c,I a,I b,.fn (.func 124) [] [.ptr 0 0],X,X,X,X,I ((i + 1:Nat):Int)]++List.replicate 44 X) ⟨hsS rs (y16 (ltR rs) a j l),[],[]⟩ (z0d 0 (z0s Tryz.X198 198 Q)) →
  z0l Tryz.X198 (cd PP 198 [1,0,0,1,0,0,1,0,0]) ([.row 1 0 n c,I a,I b,.fn (.func 124) [] [.ptr 0 0],X,X,X,X,I i,I j]++List.replicate 43 X) ⟨hsS rs l,[],[]⟩ (z0d 2 (z0d 1 (z0i Tryz.X198 (cd PP 198 [1,0,0,1,1]) (z0r Tryz.X198 (cd PP 198 [1,0,0]) (z0d 0 (z0s Tryz.X198 198 Q)))))):=by
 intro j
 induction j with
 | zero =>
  intro l hj hl hm hk
  refine z0n (C:=Tryz.X198) (z00 bok124 (Cts.nil _)) (z1c bok124 (Cts.nil _)) ?_
  rw [z3k,x7h]
  refine z0p (decide_eq_false (by omega)) ?_
  rw [wA1 (by omega)]
  exact hk
 | succ j ih =>
  intro l hj hl hm hk
  refine z0n (C:=Tryz.X198) (z00 bok124 (Cts.nil _)) (z1c bok124 (Cts.nil _)) ?_
  rw [z3k,x7h]
  rw [wA1 (a:=i) (by omega),wS1 (a:=j + 1) (by omega) (by omega),Nat.add_sub_cancel]
  simp only [y16] at hk
  refine z0h (fun hgt=>?_) (fun hgt=>?_)
  ·have hgt:a < j + 1:=by have:=of_decide_eq_true hgt; omega
   simp only [z9s]
   have h1:j + 1 < l.length:=by omega
   have h2:j < l.length:=by omega
   rw [z3u l _ h1,z3u l _ h2,z6n l _ _ h1,z6n (l.set _ _) _ _ (by simpa using h2)]
   have g1:=hm _ (z9f h1)
   have g2:=hm _ (z9f h2)
   refine z0b (z0z _) (z0b (row_in (by omega)) (z0b (z4q h1) (z0b (z10 l _ h1) (z0b (z0z _) (z0b (row_in (by omega)) (z0b (z4q h2) (z0b (z10 l _ h2) ?_)))))))
   refine ⟨⟨rs,rfl,rfl,hrs,by omega,by omega,by omega,by omega⟩,⟨rfl,y4i rs l _ _⟩,trivial,?_⟩
   rw [z0j z0u]
   simp only [Int.toNat_natCast]
   rw [y4j]
   refine z0h (fun hlt=>?_) (fun hlt=>?_)
   ·rw [if_pos ⟨hgt,hlt⟩] at hk
    refine z0b (z0z _) (z0b (row_in (by omega)) (z0b (z4q h2) (z0b (z10 l _ h2) (z0b (z0z _) (z0b (row_in (by omega)) (z0b (z4q h1) (z0b (z10 l _ h1)
     (z0b (z0z _) (z0b (row_in (by omega)) (z0b (z7l h1) (z0b (z0z _) (z0b (row_in (by omega)) (z0b (z7l (by simpa using h2)) ?_)))))))))))))
    exact ih (sw l (j + 1) j) (by omega) (by rw [z6z]; exact hl) (w0t h1 h2 hm) hk
   ·rw [if_neg (by rw [hlt]; simp)] at hk
    exact hk
  ·have hgt:¬ a < j + 1:=by have:=of_decide_eq_false hgt; omega
   rw [if_neg (by omega)] at hk
   exact hk
theorem x4d {a b:Nat} (hb:b ≤ n):∀ (d i:Nat) (l:List Nat),b - i = d→i ≤ 25→l.length = n→(∀ x ∈ l,x < rs.length)→Q (.ret (.tup [])) (hsS rs (y3w (ltR rs) a d i l)) →
  z0l Tryz.X198 (cd PP 198 [1,0,0]) ([.row 1 0 n c,I a,I b,.fn (.func 124) [] [.ptr 0 0],X,X,X,X,I i]++List.replicate 44 X) ⟨hsS rs l,[],[]⟩ (z0d 0 (z0s Tryz.X198 198 Q)):=by
 intro d
 induction d with
 | zero =>
  intro i l hd hi hl hm hQ
  refine z0n (C:=Tryz.X198) (z00 bok124 (Cts.nil _)) (z1c bok124 (Cts.nil _)) ((x7g n c a b i _ _ Q).mpr (z0p (by simp; omega) (z0b (y39 (z4k rs) l []) ?_)))
  rw [(z4k rs).2,z2x]
  exact hQ
 | succ d ih =>
  intro i l hd hi hl hm hQ
  refine z0n (C:=Tryz.X198) (z00 bok124 (Cts.nil _)) (z1c bok124 (Cts.nil _)) ((x7g n c a b i _ _ Q).mpr (z0b (by simp; omega) ?_))
  have hp:=y1y (ltR rs) a i l (by omega)
  refine x4e hn hrs (by omega) i l (Nat.le_refl _) hl hm (ih (i + 1) _ (by omega) (by omega) (by rw [hp.length_eq]; exact hl) (y0s hp hm) hQ)
end
theorem y6m (rs:List Rul) (l:List Nat):(hsS rs l).map (Option.map (z06 0)) = hsS rs l:=y9z (z4k rs) l
theorem ct198:CtP Tryz.B.c0 198 2 x64 where
 body:=⟨_,_,Tryz.func198,rfl⟩
 ok:=fun args hs D r hs' hR hD hl=>by
  unfold x64 at hR
  split at hR <;> cases hR
  rename_i n c a b rl len rt cs ct
  obtain ⟨rfl,rfl,hn,⟨rs,l,rfl,rfl,hrs,rfl,hl',hm⟩,ha0,ha1,hb0,hb1⟩:=hD
  obtain ⟨a,rfl⟩:∃ k:Nat,a = k:=⟨a.toNat,by omega⟩
  obtain ⟨b,rfl⟩:∃ k:Nat,b = k:=⟨b.toNat,by omega⟩
  rw [y6m rs l,z5r]
  simp only [Int.toNat_natCast]
  refine z4p (B:=Tryz.B124) (l:=[]) (lm:=x7w) (tp:=[1]) (ct:=[]) (sm:=[]) (nb:=2) bok124 (Cts.nil _) rfl ((v198 n c a b _ _ _).mpr ?_)
  rw [wA1 (a:=a) (by omega)]
  exact x4d hn hrs (by omega) (b - (a + 1)) (a + 1) l rfl (by omega) hl' hm ⟨rfl,rfl⟩
end Go.Proofs
set_option maxRecDepth 100000
set_option linter.unusedVariables false
namespace Go.Ev
theorem y5k (lt:Nat→Nat→Bool):∀ (f g a m b:Nat) (l:List Nat),a < m→m < b→b - a ≤ f→b - a ≤ g→smg lt f a m b l = smg lt g a m b l
 | 0,g,a,m,b,l,h1,h2,h3,h4=>by omega
 | f + 1,0,a,m,b,l,h1,h2,h3,h4=>by omega
 | f + 1,g + 1,a,m,b,l,h1,h2,h3,h4=>by
  simp only [smg]
  have hb:=y60 h1 h2
  have hs:=y0x lt h1 h2 l
  generalize z0v lt a m b l = st at hs ⊢
  generalize z3a m st ((a + b) / 2 + m - st) l = l1
  have e1:(if a < st∧st < (a + b) / 2 then smg lt f a st ((a + b) / 2) l1 else l1) = (if a < st∧st < (a + b) / 2 then smg lt g a st ((a + b) / 2) l1 else l1):=by
   split
   ·exact y5k lt f g _ _ _ _ (by omega) (by omega) (by omega) (by omega)
   ·rfl
  rw [e1]
  generalize (if a < st∧st < (a + b) / 2 then smg lt g a st ((a + b) / 2) l1 else l1) = l2
  have e2:(if (a + b) / 2 < (a + b) / 2 + m - st∧(a + b) / 2 + m - st < b then smg lt f ((a + b) / 2) ((a + b) / 2 + m - st) b l2 else l2) = (if (a + b) / 2 < (a + b) / 2 + m - st∧(a + b) / 2 + m - st < b then smg lt g ((a + b) / 2) ((a + b) / 2 + m - st) b l2 else l2):=by
   split
   ·exact y5k lt f g _ _ _ _ (by omega) (by omega) (by omega) (by omega)
   ·rfl
  rw [e2]
end Go.Ev
namespace Go.Proofs
open Go Go.Ev
section
variable {k:Nat} (hB:BaseOk (Tryz.B199 k)) {n c:Nat} (hn:n ≤ 24) {rs:List Rul} (hrs:z1j rs) {Q:CR→List (Option HB)→Prop}
include hB hn hrs
theorem x5r {i:Nat} (hi1:1 ≤ i) (hi:i ≤ n):∀ (d j:Nat) (l:List Nat),i - 1 - j = d→l.length = n→j < n→Q (.ret (.tup [])) (hsS rs (upN d j l)) →
  z0l (Tryz.X199 k) (cd PP 199 [0,1,0,1,1,1,0,1,0,0]) ([.row 1 0 n c,X,X,X,X,X,X,X,X,X,I i,X,X,I j]++List.replicate 206 X) ⟨hsS rs l,[],[]⟩ (z0d 2 (z0i (Tryz.X199 k) (cd PP 199 [0,1,0,1,1,1,1]) (z0i (Tryz.X199 k) (cd PP 199 [1]) (z0s (Tryz.X199 k) 199 Q)))):=by
 have _:=hrs
 intro d
 induction d with
 | zero =>
  intro j l hd hl hj hQ
  refine z0n (C:=Tryz.X199 k) (z00 hB (Cts.nil _)) (z1c hB (Cts.nil _)) ?_
  rw [z3k,x7e,wS1 hi1 (by omega)]
  refine z0p (decide_eq_false (by omega)) (z0b (y39 (z4k rs) l []) ?_)
  rw [(z4k rs).2,z2x]
  exact hQ
 | succ d ih =>
  intro j l hd hl hj hQ
  refine z0n (C:=Tryz.X199 k) (z00 hB (Cts.nil _)) (z1c hB (Cts.nil _)) ?_
  rw [z3k,x7e,wS1 hi1 (by omega),wA1 (a:=j) (by omega)]
  simp only [z9s]
  have h1:j < l.length:=by omega
  have h2:j + 1 < l.length:=by omega
  rw [z3u l _ h1,z3u l _ h2,z6n l _ _ h1,z6n (l.set _ _) _ _ (by simpa using h2)]
  refine z0b (decide_eq_true (by omega)) (z0b (z0z _) (z0b (row_in (by omega)) (z0b (z4q h2) (z0b (z10 l _ h2) (z0b (z0z _) (z0b (row_in (by omega)) (z0b (z4q h1) (z0b (z10 l _ h1)
   (z0b (z0z _) (z0b (row_in (by omega)) (z0b (z7l h1) (z0b (z0z _) (z0b (row_in (by omega)) (z0b (z7l (by simpa using h2)) ?_))))))))))))))
  exact ih (j + 1) (sw l j (j + 1)) (by omega) (by rw [z6z]; exact hl) (by omega) hQ
theorem x5p {i:Nat}:∀ (d j:Nat) (l:List Nat),j - i = d→l.length = n→j < n→Q (.ret (.tup [])) (hsS rs (dnN d j l)) →
  z0l (Tryz.X199 k) (cd PP 199 [1,0,1,0,1,1,1,0,1,0,0]) ([.row 1 0 n c,X,X,X,X,X,X,X,X,X,X,X,X,X,I i,X,X,I j]++List.replicate 202 X) ⟨hsS rs l,[],[]⟩ (z0d 6 (z0i (Tryz.X199 k) (cd PP 199 [1,0,1,0,1,1,1,1]) (z0i (Tryz.X199 k) (cd PP 199 [1,1]) (z0s (Tryz.X199 k) 199 Q)))):=by
 have _:=hrs
 intro d
 induction d with
 | zero =>
  intro j l hd hl hj hQ
  refine z0n (C:=Tryz.X199 k) (z00 hB (Cts.nil _)) (z1c hB (Cts.nil _)) ?_
  rw [z3k,x7c]
  refine z0p (decide_eq_false (by omega)) (z0b (y39 (z4k rs) l []) ?_)
  rw [(z4k rs).2,z2x]
  exact hQ
 | succ d ih =>
  intro j l hd hl hj hQ
  refine z0n (C:=Tryz.X199 k) (z00 hB (Cts.nil _)) (z1c hB (Cts.nil _)) ?_
  rw [z3k,x7c,wS1 (a:=j) (by omega) (by omega)]
  simp only [z9s]
  have h1:j < l.length:=by omega
  have h2:j - 1 < l.length:=by omega
  rw [z3u l _ h1,z3u l _ h2,z6n l _ _ h1,z6n (l.set _ _) _ _ (by simpa using h2)]
  refine z0b (decide_eq_true (by omega)) (z0b (z0z _) (z0b (row_in (by omega)) (z0b (z4q h2) (z0b (z10 l _ h2) (z0b (z0z _) (z0b (row_in (by omega)) (z0b (z4q h1) (z0b (z10 l _ h1)
   (z0b (z0z _) (z0b (row_in (by omega)) (z0b (z7l h1) (z0b (z0z _) (z0b (row_in (by omega)) (z0b (z7l (by simpa using h2)) ?_))))))))))))))
  exact ih (j - 1) (sw l j (j - 1)) (by omega) (by rw [z6z]; exact hl) (by omega) hQ
theorem x5s {a:Nat} {l:List Nat} (hl:l.length = n) (hm:∀ x ∈ l,x < rs.length) (ha:a < n):∀ (f i j:Nat),i ≤ j→j - i ≤ f→j ≤ n →
  z0l (Tryz.X199 k) (cd PP 199 [0,1,0,1,1,1,0,1,0,0]) ([.row 1 0 n c,X,X,X,X,X,X,X,X,X,I (bs (fun h=>!ltR rs (gN l h) (gN l a)) f i j:Nat),X,X,I a]++List.replicate 206 X) ⟨hsS rs l,[],[]⟩ (z0d 2 (z0i (Tryz.X199 k) (cd PP 199 [0,1,0,1,1,1,1]) (z0i (Tryz.X199 k) (cd PP 199 [1]) (z0s (Tryz.X199 k) 199 Q)))) →
  z0l (Tryz.X199 k) (cd PP 199 [0,1,0,1,1,0,0,0]) ([.row 1 0 n c,I a,X,X,.fn (.func 124) [] [.ptr 0 0],X,X,X,X,X,I i,I j]++List.replicate 208 X) ⟨hsS rs l,[],[]⟩ (z0d 0 (z0i (Tryz.X199 k) (cd PP 199 [0,1,0,1,1,1]) (z0i (Tryz.X199 k) (cd PP 199 [1]) (z0s (Tryz.X199 k) 199 Q)))):=by
 intro f
 induction f with
 | zero =>
  intro i j h1 h2 h3 hk
  refine z0n (C:=Tryz.X199 k) (z00 hB (Cts.nil _)) (z1c hB (Cts.nil _)) ?_
  rw [z3k,x7f]
  exact z0p (decide_eq_false (by omega)) hk
 | succ f ih =>
  intro i j h1 h2 h3 hk
  refine z0n (C:=Tryz.X199 k) (z00 hB (Cts.nil _)) (z1c hB (Cts.nil _)) ?_
  rw [z3k,x7f,wH (a:=i) (b:=j) (by omega)]
  simp only [bs] at hk
  refine z0h (fun hlt=>?_) (fun hlt=>?_)
  ·have hlt:i < j:=by have:=of_decide_eq_true hlt; omega
   rw [if_pos hlt] at hk
   generalize hh:(i + j) / 2 = h at *
   rw [wA1 (a:=h) (by omega)]
   simp only [z9s]
   have q1:h < l.length:=by omega
   have q2:a < l.length:=by omega
   rw [z3u l _ q1,z3u l _ q2]
   have g1:=hm _ (z9f q1)
   have g2:=hm _ (z9f q2)
   refine z0b (z0z _) (z0b (row_in (by omega)) (z0b (z4q q1) (z0b (z10 l _ q1) (z0b (z0z _) (z0b (row_in (by omega)) (z0b (z4q q2) (z0b (z10 l _ q2) ?_)))))))
   refine ⟨⟨rs,rfl,rfl,hrs,by omega,by omega,by omega,by omega⟩,⟨rfl,y4i rs l _ _⟩,trivial,?_⟩
   rw [z0j z0u]
   simp only [Int.toNat_natCast]
   rw [y4j]
   refine z0h (fun hc=>?_) (fun hc=>?_)
   ·rw [if_neg (by rw [hc]; simp)] at hk
    exact ih (h + 1) j (by omega) (by omega) h3 hk
   ·rw [if_pos (by rw [hc]; rfl)] at hk
    exact ih i h (by omega) (by omega) (by omega) hk
  ·have hlt:¬ i < j:=by have:=of_decide_eq_false hlt; omega
   rw [if_neg hlt] at hk
   exact hk
theorem x5q {m:Nat} {l:List Nat} (hl:l.length = n) (hm:∀ x ∈ l,x < rs.length) (ha:m < n):∀ (f i j:Nat),i ≤ j→j - i ≤ f→j ≤ n →
  z0l (Tryz.X199 k) (cd PP 199 [1,0,1,0,1,1,1,0,1,0,0]) ([.row 1 0 n c,X,X,X,X,X,X,X,X,X,X,X,X,X,I (bs (fun h=>ltR rs (gN l m) (gN l h)) f i j:Nat),X,X,I m]++List.replicate 202 X) ⟨hsS rs l,[],[]⟩ (z0d 6 (z0i (Tryz.X199 k) (cd PP 199 [1,0,1,0,1,1,1,1]) (z0i (Tryz.X199 k) (cd PP 199 [1,1]) (z0s (Tryz.X199 k) 199 Q)))) →
  z0l (Tryz.X199 k) (cd PP 199 [1,0,1,0,1,1,0,0,0]) ([.row 1 0 n c,X,I m,X,.fn (.func 124) [] [.ptr 0 0],X,X,X,X,X,X,X,X,X,I i,I j]++List.replicate 204 X) ⟨hsS rs l,[],[]⟩ (z0d 4 (z0i (Tryz.X199 k) (cd PP 199 [1,0,1,0,1,1,1]) (z0i (Tryz.X199 k) (cd PP 199 [1,1]) (z0s (Tryz.X199 k) 199 Q)))):=by
 intro f
 induction f with
 | zero =>
  intro i j h1 h2 h3 hk
  refine z0n (C:=Tryz.X199 k) (z00 hB (Cts.nil _)) (z1c hB (Cts.nil _)) ?_
  rw [z3k,x7d]
  exact z0p (decide_eq_false (by omega)) hk
 | succ f ih =>
  intro i j h1 h2 h3 hk
  refine z0n (C:=Tryz.X199 k) (z00 hB (Cts.nil _)) (z1c hB (Cts.nil _)) ?_
  rw [z3k,x7d,wH (a:=i) (b:=j) (by omega)]
  simp only [bs] at hk
  refine z0h (fun hlt=>?_) (fun hlt=>?_)
  ·have hlt:i < j:=by have:=of_decide_eq_true hlt; omega
   rw [if_pos hlt] at hk
   generalize hh:(i + j) / 2 = h at *
   rw [wA1 (a:=h) (by omega)]
   simp only [z9s]
   have q1:h < l.length:=by omega
   have q2:m < l.length:=by omega
   rw [z3u l _ q1,z3u l _ q2]
   have g1:=hm _ (z9f q1)
   have g2:=hm _ (z9f q2)
   refine z0b (z0z _) (z0b (row_in (by omega)) (z0b (z4q q2) (z0b (z10 l _ q2) (z0b (z0z _) (z0b (row_in (by omega)) (z0b (z4q q1) (z0b (z10 l _ q1) ?_)))))))
   refine ⟨⟨rs,rfl,rfl,hrs,by omega,by omega,by omega,by omega⟩,⟨rfl,y4i rs l _ _⟩,trivial,?_⟩
   rw [z0j z0u]
   simp only [Int.toNat_natCast]
   rw [y4j]
   refine z0h (fun hc=>?_) (fun hc=>?_)
   ·rw [if_neg (by simpa using hc)] at hk
    exact ih (h + 1) j (by omega) (by omega) h3 hk
   ·rw [if_pos (by simpa using hc)] at hk
    exact ih i h (by omega) (by omega) (by omega) hk
  ·have hlt:¬ i < j:=by have:=of_decide_eq_false hlt; omega
   rw [if_neg hlt] at hk
   exact hk
theorem y85 (l l':List Nat) (x:List AV) (hx:noHL 2 x = true):noHL 2 ([]++x++[]) = true∧(List.take 2 (hsS rs l)).all (z1i 2) = true∧(hsS rs l').length = 2∧2 ≤ (hsS rs l).length :=
 have _:=hB
 have _:=hn
 have _:=hrs
 ⟨by simpa using hx,by simpa using x2x (z4k rs) l [],rfl,Nat.le_refl _⟩
theorem y61 {b mid en:Nat} {l:List Nat} (hl:l.length = n) (hm:∀ x ∈ l,x < rs.length) (hbn:b ≤ n) (hk:b - mid < k) (hQ:Q (.ret (.tup [])) (hsS rs (if mid < en∧en < b then smg (ltR rs) (b - mid) mid en b l else l))) :
  z0k (Tryz.X199 k) (cd PP 199 [1,1,1,1,1,1,1,1,1,1,1]) ([.row 1 0 n c,X,X,I b,.fn (.func 124) [] [.ptr 0 0],X,X,X,X,X,X,X,X,X,X,X,X,X,I mid,X,X,X,X,X,I en]++List.replicate 195 X) ⟨hsS rs l,[],[]⟩ (z0s (Tryz.X199 k) 199 Q):=by
 refine z3n (C:=Tryz.X199 k) (z00 hB (Cts.nil _)) (z1c hB (Cts.nil _)) ?_
 rw [z3k,w28]
 have fin:∀ l',Q (.ret (.tup [])) (hsS rs l')→cIf ((List.take (Tryz.X199 k).bs (St.mk (hsS rs l') [] []).hs).all (okBlk (Tryz.X199 k).bs)) (Q (CR.ret (AV.tup [])) [some (HB.cells [AV.vs (z0e 0 (z0c rs)) rs.length Tok.none] 25),some (HB.cells (z0e 0 (encD l')) 3)]) False:=fun l' h=>by
  rw [z1f,z2x]
  exact z0b (y39 (z4k rs) l' []) h
 refine z0h (fun h1=>z0h (fun h2=>?_) (fun h2=>?_)) (fun h1=>?_)
 ·have h1:=of_decide_eq_true h1
  have h2:=of_decide_eq_true h2
  rw [if_pos (by omega)] at hQ
  rw [z5r]
  simp only [Int.toNat_natCast]
  refine ⟨⟨⟨trivial,trivial,hn,⟨rs,l,rfl,rfl,hrs,rfl,hl,hm⟩,by omega,by omega,by omega,by omega⟩,?_⟩,y85 hB hn hrs l _ _ (by simp [noHL,noH]),fin _ hQ⟩
  show ((b:Int) - (mid:Int)).toNat < k
  omega
 ·have h2:=of_decide_eq_false h2
  rw [if_neg (by omega)] at hQ
  exact fin _ hQ
 ·have h1:=of_decide_eq_false h1
  rw [if_neg (by omega)] at hQ
  exact fin _ hQ
theorem y62 {a b mid st en:Nat} {l:List Nat} (hl:l.length = n) (hm:∀ x ∈ l,x < rs.length) (hbn:b ≤ n) (hmid:mid ≤ n) (hk:b - mid < k) (hk2:mid - a < k)
  (hQ:Q (.ret (.tup [])) (hsS rs (if mid < en∧en < b then smg (ltR rs) (b - mid) mid en b (if a < st∧st < mid then smg (ltR rs) (mid - a) a st mid l else l) else (if a < st∧st < mid then smg (ltR rs) (mid - a) a st mid l else l)))) :
  z0k (Tryz.X199 k) (cd PP 199 [1,1,1,1,1,1,1,1,1,1]) ([.row 1 0 n c,I a,X,I b,.fn (.func 124) [] [.ptr 0 0],X,X,X,X,X,X,X,X,X,X,X,X,X,I mid,X,I st,X,X,X,I en]++List.replicate 195 X) ⟨hsS rs l,[],[]⟩ (z0s (Tryz.X199 k) 199 Q):=by
 refine z3n (C:=Tryz.X199 k) (z00 hB (Cts.nil _)) (z1c hB (Cts.nil _)) ?_
 rw [z3k,w29]
 refine z0h (fun h1=>z0h (fun h2=>?_) (fun h2=>?_)) (fun h1=>?_)
 ·have h1:=of_decide_eq_true h1
  have h2:=of_decide_eq_true h2
  rw [if_pos (show a < st∧st < mid by omega)] at hQ
  rw [z5r]
  simp only [Int.toNat_natCast]
  have hp:(smg (ltR rs) (mid - a) a st mid l).Perm l:=y00 _ _ _ _ _ _ (by omega) (by omega) (by omega)
  refine ⟨⟨⟨trivial,trivial,hn,⟨rs,l,rfl,rfl,hrs,rfl,hl,hm⟩,by omega,by omega,by omega,by omega⟩,?_⟩,y85 hB hn hrs l _ _ (by simp [noHL,noH]),?_⟩
  ·show ((mid:Int) - (a:Int)).toNat < k
   omega
  ·exact y61 hB hn hrs (by rw [hp.length_eq]; exact hl) (y0s hp hm) hbn hk hQ
 ·have h2:=of_decide_eq_false h2
  rw [if_neg (show ¬ (a < st∧st < mid) by omega)] at hQ
  exact y61 hB hn hrs hl hm hbn hk hQ
 ·have h1:=of_decide_eq_false h1
  rw [if_neg (show ¬ (a < st∧st < mid) by omega)] at hQ
  exact y61 hB hn hrs hl hm hbn hk hQ
theorem y84 {a m b mid nn:Nat} {l:List Nat} (hl:l.length = n) (hm:∀ x ∈ l,x < rs.length) (h1:a < m) (h2:m < b) (hbn:b ≤ n) (hmid:mid = (a + b) / 2) (hnn:nn = mid + m) (hk:b - mid < k) (hk2:mid - a < k):∀ (f s r:Nat),s ≤ r→r - s ≤ f→nn - b ≤ s→a ≤ s→r ≤ m→r ≤ mid →
  (∀ st en l1,st = bs (fun c=>ltR rs (gN l (nn - 1 - c)) (gN l c)) f s r→en = nn - st→l1 = z3a m st en l→Q (.ret (.tup [])) (hsS rs (if mid < en∧en < b then smg (ltR rs) (b - mid) mid en b (if a < st∧st < mid then smg (ltR rs) (mid - a) a st mid l1 else l1) else (if a < st∧st < mid then smg (ltR rs) (mid - a) a st mid l1 else l1)))) →
  z0l (Tryz.X199 k) (cd PP 199 [1,1,1,1,1,1,1,0,0,0]) ([.row 1 0 n c,I a,I m,I b,.fn (.func 124) [] [.ptr 0 0],X,X,X,X,X,X,X,X,X,X,X,X,X,I mid,I nn,I s,I r,I ((nn - 1:Nat):Int)]++List.replicate 197 X) ⟨hsS rs l,[],[]⟩ (z0d 8 (z0i (Tryz.X199 k) (cd PP 199 [1,1,1,1,1,1,1,1]) (z0s (Tryz.X199 k) 199 Q))):=by
 have fin:∀ s r:Nat,¬ s < r→nn - b ≤ s→s ≤ m→s ≤ mid→(∀ st en l1,st = s→en = nn - st→l1 = z3a m st en l→Q (.ret (.tup [])) (hsS rs (if mid < en∧en < b then smg (ltR rs) (b - mid) mid en b (if a < st∧st < mid then smg (ltR rs) (mid - a) a st mid l1 else l1) else (if a < st∧st < mid then smg (ltR rs) (mid - a) a st mid l1 else l1)))) →
   z0l (Tryz.X199 k) (cd PP 199 [1,1,1,1,1,1,1,0,0,0]) ([.row 1 0 n c,I a,I m,I b,.fn (.func 124) [] [.ptr 0 0],X,X,X,X,X,X,X,X,X,X,X,X,X,I mid,I nn,I s,I r,I ((nn - 1:Nat):Int)]++List.replicate 197 X) ⟨hsS rs l,[],[]⟩ (z0d 8 (z0i (Tryz.X199 k) (cd PP 199 [1,1,1,1,1,1,1,1]) (z0s (Tryz.X199 k) 199 Q))):=by
  intro s r h hs1 hs2 hs3 hQ
  refine z0n (C:=Tryz.X199 k) (z00 hB (Cts.nil _)) (z1c hB (Cts.nil _)) ?_
  rw [z3k,x7b,wS (a:=nn) (b:=s) (by omega) (by omega)]
  refine z0p (decide_eq_false (by omega)) ?_
  have hQ:=hQ s (nn - s) (z3a m s (nn - s) l) rfl rfl rfl
  unfold z3a at hQ
  refine z0h (fun q1=>z0h (fun q2=>?_) (fun q2=>?_)) (fun q1=>?_)
  ·have q1:=of_decide_eq_true q1
   have q2:=of_decide_eq_true q2
   rw [if_pos (show s < m∧m < nn - s by omega)] at hQ
   rw [z0j z2n]
   simp only [Int.toNat_natCast]
   have hp:(y53 s m (nn - s) l).Perm l:=y7n (by omega) (by omega) (by omega)
   refine ⟨⟨trivial,trivial,z4k rs,hn,⟨l,rfl,hl⟩,by omega,by omega,by omega,by omega⟩,y85 hB hn hrs l _ _ (by simp [noHL,noH]),?_⟩
   exact y62 hB hn hrs (by rw [hp.length_eq]; exact hl) (y0s hp hm) hbn (by omega) hk hk2 hQ
  ·have q2:=of_decide_eq_false q2
   rw [if_neg (show ¬ (s < m∧m < nn - s) by omega)] at hQ
   exact y62 hB hn hrs hl hm hbn (by omega) hk hk2 hQ
  ·have q1:=of_decide_eq_false q1
   rw [if_neg (show ¬ (s < m∧m < nn - s) by omega)] at hQ
   exact y62 hB hn hrs hl hm hbn (by omega) hk hk2 hQ
 intro f
 induction f with
 | zero =>
  intro s r w1 w2 w3 w4 w5 w6 hQ
  exact fin s r (by omega) w3 (by omega) (by omega) hQ
 | succ f ih =>
  intro s r w1 w2 w3 w4 w5 w6 hQ
  simp only [bs] at hQ
  by_cases hlt:s < r
  ·rw [if_pos hlt] at hQ
   refine z0n (C:=Tryz.X199 k) (z00 hB (Cts.nil _)) (z1c hB (Cts.nil _)) ?_
   rw [z3k,x7b,wH (a:=s) (b:=r) (by omega)]
   refine z0b (decide_eq_true (by omega)) ?_
   generalize hh:(s + r) / 2 = h at *
   rw [wA1 (a:=h) (by omega),wS (a:=nn - 1) (b:=h) (by omega) (by omega)]
   simp only [z9s]
   have q1:h < l.length:=by omega
   have q2:nn - 1 - h < l.length:=by omega
   rw [z3u l _ q1,z3u l _ q2]
   have g1:=hm _ (z9f q1)
   have g2:=hm _ (z9f q2)
   refine z0b (z0z _) (z0b (row_in (by omega)) (z0b (z4q q2) (z0b (z10 l _ q2) (z0b (z0z _) (z0b (row_in (by omega)) (z0b (z4q q1) (z0b (z10 l _ q1) ?_)))))))
   refine ⟨⟨rs,rfl,rfl,hrs,by omega,by omega,by omega,by omega⟩,⟨rfl,y4i rs l _ _⟩,trivial,?_⟩
   rw [z0j z0u]
   simp only [Int.toNat_natCast]
   rw [y4j]
   refine z0h (fun hc=>?_) (fun hc=>?_)
   ·rw [if_neg (by simpa using hc)] at hQ
    exact ih (h + 1) r (by omega) (by omega) (by omega) (by omega) w5 w6 hQ
   ·rw [if_pos (by simpa using hc)] at hQ
    exact ih s h (by omega) (by omega) w3 w4 (by omega) (by omega) hQ
  ·rw [if_neg hlt] at hQ
   exact fin s r hlt w3 (by omega) (by omega) hQ
end
theorem ct199:CtP Tryz.B.c0 199 2 R199:=CtP.of_recM y8r ⟨_,_,Tryz.func199,rfl⟩ fun k args hs D r hs' hr hR hD hl hmu=>by
 unfold R199 at hR
 split at hR <;> cases hR
 rename_i n c a m b rl len rt cs ct
 obtain ⟨rfl,rfl,hn,⟨rs,l,rfl,rfl,hrs,rfl,hl',hm⟩,ha0,h1,h2,h3⟩:=hD
 obtain ⟨a,rfl⟩:∃ k:Nat,a = k:=⟨a.toNat,by omega⟩
 obtain ⟨b,rfl⟩:∃ k:Nat,b = k:=⟨b.toNat,by omega⟩
 obtain ⟨m,rfl⟩:∃ j:Nat,m = j:=⟨m.toNat,by omega⟩
 have hB:BaseOk (Tryz.B199 k):=(bok124.hk (ct218.hook Tryz.gtpB)).hk (hr.hook Tryz.gtpB)
 have hk:b - a = k:=by
  have:((b:Int) - (a:Int)).toNat = k:=hmu
  omega
 rw [y6m rs l,z5r]
 simp only [Int.toNat_natCast]
 refine z4p (B:=Tryz.B199 k) (l:=[]) (lm:=x7v) (tp:=[1]) (ct:=[41,43]) (sm:=[]) (nb:=2) hB (Cts.nil _) rfl ((w6o k n c a m b _ _ _).mpr ?_)
 obtain ⟨f,hf⟩:∃ f,b - a = f + 1:=⟨b - a - 1,by omega⟩
 rw [hf]
 simp only [smg]
 rw [wS (a:=m) (b:=a) (by omega) (by omega),wS (a:=b) (b:=m) (by omega) (by omega),wH (a:=a) (b:=b) (by omega)]
 refine z0h (fun q1=>?_) (fun q1=>?_)
 ·have q1:m - a = 1:=by
   have:((m - a:Nat):Int) = 1:=by simpa using q1
   omega
  rw [if_pos q1]
  have hbd:=y1o (fun h=>!ltR rs (gN l h) (gN l a)) (b - m) m b (by omega)
  exact x5s hB hn hrs hl' hm (by omega) (b - m) m b (by omega) (Nat.le_refl _) (by omega) (x5r hB hn hrs (by omega) (by omega) _ a l rfl hl' (by omega) ⟨rfl,rfl⟩)
 ·have q1:¬ m - a = 1:=by
   intro h
   rw [h] at q1
   cases q1
  rw [if_neg q1]
  refine z0h (fun q2=>?_) (fun q2=>?_)
  ·have q2:b - m = 1:=by
    have:((b - m:Nat):Int) = 1:=by simpa using q2
    omega
   rw [if_pos q2]
   exact x5q hB hn hrs hl' hm (by omega) (m - a) a m (by omega) (Nat.le_refl _) (by omega) (x5p hB hn hrs _ m l rfl hl' (by omega) ⟨rfl,rfl⟩)
  ·have q2:¬ b - m = 1:=by
    intro h
    rw [h] at q2
    cases q2
   rw [if_neg q2]
   have hbd:=y60 (show a < m by omega) (show m < b by omega)
   have fu:∀ (a' m' b':Nat) (l':List Nat),a' < m'→m' < b'→b' - a' ≤ f→smg (ltR rs) (b' - a') a' m' b' l' = smg (ltR rs) f a' m' b' l':=fun a' m' b' l' w1 w2 w3=>y5k _ _ _ _ _ _ _ w1 w2 (Nat.le_refl _) w3
   have key:∀ st en l1,st = z0v (ltR rs) a m b l→en = (a + b) / 2 + m - st→l1 = z3a m st en l →
     (fun r h'=>r = CR.ret (AV.tup [])∧h' = [some (HB.cells [AV.vs (z0c rs) rs.length Tok.none] 25),some (HB.cells (encD (if (a + b) / 2 < (a + b) / 2 + m - z0v (ltR rs) a m b l∧(a + b) / 2 + m - z0v (ltR rs) a m b l < b then smg (ltR rs) f ((a + b) / 2) ((a + b) / 2 + m - z0v (ltR rs) a m b l) b (if a < z0v (ltR rs) a m b l∧z0v (ltR rs) a m b l < (a + b) / 2 then smg (ltR rs) f a (z0v (ltR rs) a m b l) ((a + b) / 2) (z3a m (z0v (ltR rs) a m b l) ((a + b) / 2 + m - z0v (ltR rs) a m b l) l) else z3a m (z0v (ltR rs) a m b l) ((a + b) / 2 + m - z0v (ltR rs) a m b l) l) else (if a < z0v (ltR rs) a m b l∧z0v (ltR rs) a m b l < (a + b) / 2 then smg (ltR rs) f a (z0v (ltR rs) a m b l) ((a + b) / 2) (z3a m (z0v (ltR rs) a m b l) ((a + b) / 2 + m - z0v (ltR rs) a m b l) l) else z3a m (z0v (ltR rs) a m b l) ((a + b) / 2 + m - z0v (ltR rs) a m b l) l))) 3)]) (CR.ret (AV.tup [])) (hsS rs (if (a + b) / 2 < en∧en < b then smg (ltR rs) (b - (a + b) / 2) ((a + b) / 2) en b (if a < st∧st < (a + b) / 2 then smg (ltR rs) ((a + b) / 2 - a) a st ((a + b) / 2) l1 else l1) else (if a < st∧st < (a + b) / 2 then smg (ltR rs) ((a + b) / 2 - a) a st ((a + b) / 2) l1 else l1))):=by
    rintro st en l1 rfl rfl rfl
    refine ⟨rfl,?_⟩
    have e1:(if a < z0v (ltR rs) a m b l∧z0v (ltR rs) a m b l < (a + b) / 2 then smg (ltR rs) ((a + b) / 2 - a) a (z0v (ltR rs) a m b l) ((a + b) / 2) (z3a m (z0v (ltR rs) a m b l) ((a + b) / 2 + m - z0v (ltR rs) a m b l) l) else z3a m (z0v (ltR rs) a m b l) ((a + b) / 2 + m - z0v (ltR rs) a m b l) l) = (if a < z0v (ltR rs) a m b l∧z0v (ltR rs) a m b l < (a + b) / 2 then smg (ltR rs) f a (z0v (ltR rs) a m b l) ((a + b) / 2) (z3a m (z0v (ltR rs) a m b l) ((a + b) / 2 + m - z0v (ltR rs) a m b l) l) else z3a m (z0v (ltR rs) a m b l) ((a + b) / 2 + m - z0v (ltR rs) a m b l) l):=by
     split
     ·exact fu _ _ _ _ (by omega) (by omega) (by omega)
     ·rfl
    rw [e1]
    generalize (if a < z0v (ltR rs) a m b l∧z0v (ltR rs) a m b l < (a + b) / 2 then smg (ltR rs) f a (z0v (ltR rs) a m b l) ((a + b) / 2) (z3a m (z0v (ltR rs) a m b l) ((a + b) / 2 + m - z0v (ltR rs) a m b l) l) else z3a m (z0v (ltR rs) a m b l) ((a + b) / 2 + m - z0v (ltR rs) a m b l) l) = l2
    split
    ·rw [fu _ _ _ _ (by omega) (by omega) (by omega)]
    ·rfl
   have hs:=y0x (ltR rs) (show a < m by omega) (show m < b by omega) l
   rw [wA (a:=(a + b) / 2) (b:=m) (by omega),wS1 (a:=(a + b) / 2 + m) (by omega) (by omega)]
   refine z0h (fun q3=>?_) (fun q3=>?_)
   ·have q3:=of_decide_eq_true q3
    have eS:smS a m b = (a + b) / 2 + m - b:=by unfold smS; rw [if_pos (by omega)]
    have eE:smE a m b = (a + b) / 2:=by unfold smE; rw [if_pos (by omega)]
    rw [wS (a:=(a + b) / 2 + m) (b:=b) (by omega) (by omega)]
    exact y84 hB hn hrs hl' hm (by omega) (by omega) (by omega) rfl rfl (by omega) (by omega) _ _ _ (by omega) (Nat.le_refl _) (by omega) (by omega) (by omega) (by omega) (fun st en l1 e1 e2 e3=>key st en l1 (by rw [e1]; unfold z0v; rw [eS,eE]) e2 e3)
   ·have q3:=of_decide_eq_false q3
    have eS:smS a m b = a:=by unfold smS; rw [if_neg (by omega)]
    have eE:smE a m b = m:=by unfold smE; rw [if_neg (by omega)]
    exact y84 hB hn hrs hl' hm (by omega) (by omega) (by omega) rfl rfl (by omega) (by omega) _ _ _ (by omega) (Nat.le_refl _) (by omega) (by omega) (by omega) (by omega) (fun st en l1 e1 e2 e3=>key st en l1 (by rw [e1]; unfold z0v; rw [eS,eE]) e2 e3)
end Go.Proofs
