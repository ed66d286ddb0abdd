/- Contracts of functions of the program and of the reference. -/
import Derived.Test.YtljjkomdibkjpaaGreatDoorK8
set_option linter.unusedVariables false
set_option linter.unusedSimpArgs false
set_option maxRecDepth 100000
set_option linter.unusedVariables false
namespace Go.Proofs
open Go Go.Ev
noncomputable def x0j:SpcP:=fun args hs=>match args,hs with
 | [.row 1 0 n c,.int .i64 k,.fn (.func 124) [] [.ptr 0 0]],[some (.cells [.vs rl len .none] rt),some (.cells cs ct)] =>
  some (rt = 25∧ct = 3∧n ≤ 24∧okS rl cs len n∧k = n,.ret (.tup []),[some (.cells [.vs rl len .none] 25),some (.cells (onS rl cs fun lt l=>z8l lt n l) 3)])
 | _,_=>none
noncomputable def x0k:SpcP:=fun args hs=>match args,hs with
 | [.row 1 0 n c,.fn (.func 124) [] [.ptr 0 0]],[some (.cells [.vs rl len .none] rt),some (.cells cs ct)] =>
  some (rt = 25∧ct = 3∧n ≤ 24∧okS rl cs len n,.ret (.tup []),[some (.cells [.vs rl len .none] 25),some (.cells (onS rl cs fun lt l=>z8l lt n l) 3)])
 | _,_=>none
noncomputable def Tryz.B157:Base:=(Tryz.B.hk 198 (z3c 2 x64)).hk 199 (z3c 2 R199)
def x7x:List (Nat × List Nat):=[(2,[0,1,2,6,7,8]),(6,[0,1,2,6,7]),(7,[0,1,2,6]),(9,[0,1,2,6,7,8]),(13,[0,1,2,6,7])]
noncomputable def Tryz.X157:WCx:=Tryz.B157.wcxP 2 [] x7x [1] []
noncomputable def Tryz.X123:WCx:=(Tryz.B.hk 157 (z3c 2 x0j)).wcxP 2 []
def z5k (E:List AV):List AV:=[U (cI E 3),U (cI E 4),U (cI E 5),I (cI E 6),.vs (cL E 7) (cN E 7) (cT E 7)]
def z05 (rs:List Rul):List Nat:=z8l (ltR rs) rs.length (List.range rs.length)
noncomputable def R79:Spc:=fun args=>match args with
 | [.agg [.vs l len .none]]=>some (∃ rs,l = z0c rs∧len = rs.length∧z1j rs,.ret (.vs (encD (z0g z0c z05 [] l)) len .none))
 | _=>none
def w1e:List (Nat × List Nat):=[(3,[1,3,10,11]),(7,[1,3])]
noncomputable def Tryz.X79:WCx:=(Tryz.B.hk 123 (z3c 2 x0k)).wcx [] w1e []
def thR (rs:List Rul) (p q:Prf) (i:Nat):Bool:=match rs[i]? with | some x=>hoT x.t p q | none=>false
def z01 (v w:Int):Int:=if v ≥ 0∧w ≥ 0 then 3 else if v ≥ 0 then 1 else if w ≥ 0 then 2 else 0
noncomputable def on3 {α:Type} (l a b:List AV) (d:α) (f:List Rul→Prf→Prf→α):α:=z0g z0c (fun rs=>z0g z0a (fun p=>z0g z0a (fun q=>f rs p q) d b) d a) d l
noncomputable def dvP (l cs a b:List AV):Int × Int:=on3 l a b (0,0) fun rs p q=>z0g encD (fun ord=>z2g (rkR rs) (thR rs p q) (thR rs q p) ord (-1) (-1) 0) (0,0) cs
def z2c (rs:List Rul) (p q:Prf):Int × Int:=z2g (rkR rs) (thR rs p q) (thR rs q p) (z05 rs) (-1) (-1) 0
def z1x (rs:List Rul) (p q:Prf):Int × Int × Int × Int:=if z1v rs p q = 0 then (z01 (z2c rs p q).1 (z2c rs p q).2,(z2c rs p q).1,(z2c rs p q).2,0) else (0,0,0,z1v rs p q)
noncomputable def dvD (l a b:List AV):Int × Int × Int × Int:=on3 l a b (0,0,0,0) z1x
noncomputable def R78:Spc:=fun args=>match args with
 | [.agg [.vs l len .none],.vs cs n .none,.agg a,.agg b,.raw .nilFunc]=>some ((∃ rs ord,l = z0c rs∧len = rs.length∧z1j rs∧(∀ x ∈ rs,shT x.t = true)∧cs = encD ord∧n = ord.length∧ord.length ≤ 24∧∀ x ∈ ord,x < rs.length)∧(∃ p,a = z0a p)∧∃ q,b = z0a q,
   .ret (.agg [U (z01 (dvP l cs a b).1 (dvP l cs a b).2),I (dvP l cs a b).1,I (dvP l cs a b).2]))
 | _=>none
def x42:List (Nat × List Nat):=[(4,[4,5,7,8,10,11,12,19,20,21]),(9,[4,5,7,8,10,11,12,14,15,16,17,19,20,21]),(13,[4,5,7,8,10,11,12,14,16,17,19,20,21]),(15,[4,5,7,8,10,11,12,14,17,19,20,21]),(18,[10,11])]
noncomputable def Tryz.X78:WCx:=Tryz.B.wcx [(80,R80)] x42 [] [9,13,15,18] [(4,5),(9,6),(13,5),(15,5),(18,5)]
noncomputable def R28:Spc:=fun args=>match args with
 | [.agg [.vs l len .none],.agg a,.agg b]=>some ((∃ rs,l = z0c rs∧len = rs.length∧z1h rs)∧(∃ p,a = z0a p)∧∃ q,b = z0a q,
   .ret (.tup [.agg [U (dvD l a b).1,I (dvD l a b).2.1,I (dvD l a b).2.2.1],I (dvD l a b).2.2.2]))
 | _=>none
noncomputable def Tryz.X28:WCx:=Tryz.B.wcx [(77,R77),(78,R78),(79,R79)]
theorem v157 (n c:Nat) (k:Int) (rl cs:List AV) (Q:CR→List (Option HB)→Prop):wpS Tryz.X157 157 [.row 1 0 n c,I k,.fn (.func 124) [] [.ptr 0 0]] [some (.cells rl 25),some (.cells cs 3)] Q =
 (z0l Tryz.X157 (cd Tryz.X157.P 157 [1,1,0,0,0]) ([AV.row 1 0 n c,I k,AV.fn (Fn.func 124) [] [AV.ptr 0 0],X,X,X,I 20,I 0,I 20]++List.replicate 54 X) (St.mk [some (HB.cells rl 25),some (HB.cells cs 3)] [] []) (z0d 0 (z0i Tryz.X157 (cd Tryz.X157.P 157 [1,1,1]) (z0s Tryz.X157 157 Q)))):=by kernel_rfl
theorem x7l (n c:Nat) (k z a b:Int) (l cs:List AV) (len:Nat) (Q:CR→List (Option HB)→Prop):wpC Tryz.X157 (cd PP 157 [1,1,0,0,0]) ([.row 1 0 n c,I k,.fn (.func 124) [] [.ptr 0 0],X,X,X,I z,I a,I b]++List.replicate 54 X) ⟨[some (.cells [.vs l len .none] 25),some (.cells cs 3)],[],[]⟩ (z0r Tryz.X157 (cd PP 157 [1,1,0,0,0]) (z0d 0 (z0i Tryz.X157 (cd PP 157 [1,1,1]) (z0s Tryz.X157 157 Q)))) =
 (cIf (decide (b ≤ k)) ((25 = (25:TypeId)∧3 = (3:TypeId)∧n ≤ 24∧okS l cs len n∧(0:Int) ≤ a∧a ≤ (↑n:Int)∧(0:Int) ≤ b∧b ≤ (↑n:Int))∧(noHL 2 ([]++[AV.row 1 0 n c,I a,I b,AV.fn (Fn.func 124) [] [AV.ptr 0 0]]++[]) = true∧(List.take 2 (St.mk [some (HB.cells [AV.vs l len Tok.none] 25),some (HB.cells cs 3)] [] []).hs).all (z1i 2) = true∧[some (HB.cells [AV.vs l len Tok.none] (25:TypeId)),some (HB.cells (onS l cs fun (lt:Nat→Nat→Bool) (l:List Nat)=>z4i lt a.toNat b.toNat l) (3:TypeId))].length = 2∧2 ≤ (St.mk [some (HB.cells [AV.vs l len Tok.none] 25),some (HB.cells cs 3)] [] []).hs.length)∧z0l Tryz.X157 (cd PP 157 [1,1,0,0,0]) ([AV.row 1 0 n c,I k,AV.fn (Fn.func 124) [] [AV.ptr 0 0],X,X,X,I z,I b,I (IntKind.i64.wrap (b + z))]++List.replicate 54 X) (St.mk [some (HB.cells [AV.vs l len Tok.none] 25),some (HB.cells (onS l cs fun (lt:Nat→Nat→Bool) (l:List Nat)=>z4i lt a.toNat b.toNat l) 3)] [] []) (z0d 0 (z0i Tryz.X157 (cd PP 157 [1,1,1]) (z0s Tryz.X157 157 Q)))) ((25 = (25:TypeId)∧3 = (3:TypeId)∧n ≤ 24∧okS l cs len n∧(0:Int) ≤ a∧a ≤ (↑n:Int)∧(0:Int) ≤ k∧k ≤ (↑n:Int))∧(noHL 2 ([]++[AV.row 1 0 n c,I a,I k,AV.fn (Fn.func 124) [] [AV.ptr 0 0]]++[]) = true∧(List.take 2 (St.mk [some (HB.cells [AV.vs l len Tok.none] 25),some (HB.cells cs 3)] [] []).hs).all (z1i 2) = true∧[some (HB.cells [AV.vs l len Tok.none] (25:TypeId)),some (HB.cells (onS l cs fun (lt:Nat→Nat→Bool) (l:List Nat)=>z4i lt a.toNat k.toNat l) (3:TypeId))].length = 2∧2 ≤ (St.mk [some (HB.cells [AV.vs l len Tok.none] 25),some (HB.cells cs 3)] [] []).hs.length)∧z0l Tryz.X157 (cd PP 157 [1,1,1,1,0,0]) ([AV.row 1 0 n c,I k,AV.fn (Fn.func 124) [] [AV.ptr 0 0],X,X,X,I z]++List.replicate 56 X) (St.mk [some (HB.cells [AV.vs l len Tok.none] 25),some (HB.cells (onS l cs fun (lt:Nat→Nat→Bool) (l:List Nat)=>z4i lt a.toNat k.toNat l) 3)] [] []) (z0d 2 (z0s Tryz.X157 157 Q)))):=by kernel_rfl
theorem x7k (n c:Nat) (k z:Int) (rl cs:List AV) (Q:CR→List (Option HB)→Prop):wpC Tryz.X157 (cd PP 157 [1,1,1,1,0,0]) ([.row 1 0 n c,I k,.fn (.func 124) [] [.ptr 0 0],X,X,X,I z]++List.replicate 56 X) ⟨[some (.cells rl 25),some (.cells cs 3)],[],[]⟩ (z0r Tryz.X157 (cd PP 157 [1,1,1,1,0,0]) (z0d 2 (z0s Tryz.X157 157 Q))) =
 (cIf (decide (z < k)) (z0l Tryz.X157 (cd PP 157 [1,1,1,1,0,0,1,0,1,0,0,0]) ([AV.row 1 0 n c,I k,AV.fn (Fn.func 124) [] [AV.ptr 0 0],X,X,X,I z,I 0,I (IntKind.i64.wrap ((2:Int) * z))]++List.replicate 54 X) (St.mk [some (HB.cells rl 25),some (HB.cells cs 3)] [] []) (z0d 4 (z0i Tryz.X157 (cd PP 157 [1,1,1,1,0,0,1,0,1,1]) (z0d 3 (z0r Tryz.X157 (cd PP 157 [1,1,1,1,0,0]) (z0d 2 (z0s Tryz.X157 157 Q))))))) (cIf ((List.take Tryz.X157.bs (St.mk [some (HB.cells rl 25),some (HB.cells cs 3)] [] []).hs).all (okBlk Tryz.X157.bs)) (Q (CR.ret (AV.tup [])) [some (HB.cells (z0e 0 rl) 25),some (HB.cells (z0e 0 cs) 3)]) False)):=by kernel_rfl
theorem w3a (n c:Nat) (k z a b:Int) (l cs:List AV) (len:Nat) (Q:CR→List (Option HB)→Prop):wpC Tryz.X157 (cd PP 157 [1,1,1,1,0,0,1,0,1,0,0,0]) ([.row 1 0 n c,I k,.fn (.func 124) [] [.ptr 0 0],X,X,X,I z,I a,I b]++List.replicate 54 X) ⟨[some (.cells [.vs l len .none] 25),some (.cells cs 3)],[],[]⟩ (z0r Tryz.X157 (cd PP 157 [1,1,1,1,0,0,1,0,1,0,0,0]) (z0d 4 (z0i Tryz.X157 (cd PP 157 [1,1,1,1,0,0,1,0,1,1]) (z0d 3 (z0r Tryz.X157 (cd PP 157 [1,1,1,1,0,0]) (z0d 2 (z0s Tryz.X157 157 Q))))))) =
 (cIf (decide (b ≤ k)) ((25 = (25:TypeId)∧3 = (3:TypeId)∧n ≤ 24∧okS l cs len n∧(0:Int) ≤ a∧a < IntKind.i64.wrap (a + z)∧IntKind.i64.wrap (a + z) < b∧b ≤ (↑n:Int))∧(noHL 2 ([]++[AV.row 1 0 n c,I a,I (IntKind.i64.wrap (a + z)),I b,AV.fn (Fn.func 124) [] [AV.ptr 0 0]]++[]) = true∧(List.take 2 (St.mk [some (HB.cells [AV.vs l len Tok.none] 25),some (HB.cells cs 3)] [] []).hs).all (z1i 2) = true∧[some (HB.cells [AV.vs l len Tok.none] (25:TypeId)),some (HB.cells (onS l cs fun (lt:Nat→Nat→Bool) (l:List Nat)=>smg lt (b.toNat - a.toNat) a.toNat (IntKind.i64.wrap (a + z)).toNat b.toNat l) (3:TypeId))].length = 2∧2 ≤ (St.mk [some (HB.cells [AV.vs l len Tok.none] 25),some (HB.cells cs 3)] [] []).hs.length)∧z0l Tryz.X157 (cd PP 157 [1,1,1,1,0,0,1,0,1,0,0,0]) ([AV.row 1 0 n c,I k,AV.fn (Fn.func 124) [] [AV.ptr 0 0],X,X,X,I z,I b,I (IntKind.i64.wrap (b + IntKind.i64.wrap ((2:Int) * z)))]++List.replicate 54 X) (St.mk [some (HB.cells [AV.vs l len Tok.none] 25),some (HB.cells (onS l cs fun (lt:Nat→Nat→Bool) (l:List Nat)=>smg lt (b.toNat - a.toNat) a.toNat (IntKind.i64.wrap (a + z)).toNat b.toNat l) 3)] [] []) (z0d 4 (z0i Tryz.X157 (cd PP 157 [1,1,1,1,0,0,1,0,1,1]) (z0d 3 (z0r Tryz.X157 (cd PP 157 [1,1,1,1,0,0]) (z0d 2 (z0s Tryz.X157 157 Q))))))) (cIf (decide (IntKind.i64.wrap (a + z) < k)) ((25 = (25:TypeId)∧3 = (3:TypeId)∧n ≤ 24∧okS l cs len n∧(0:Int) ≤ a∧a < IntKind.i64.wrap (a + z)∧IntKind.i64.wrap (a + z) < k∧k ≤ (↑n:Int))∧(noHL 2 ([]++[AV.row 1 0 n c,I a,I (IntKind.i64.wrap (a + z)),I k,AV.fn (Fn.func 124) [] [AV.ptr 0 0]]++[]) = true∧(List.take 2 (St.mk [some (HB.cells [AV.vs l len Tok.none] 25),some (HB.cells cs 3)] [] []).hs).all (z1i 2) = true∧[some (HB.cells [AV.vs l len Tok.none] (25:TypeId)),some (HB.cells (onS l cs fun (lt:Nat→Nat→Bool) (l:List Nat)=>smg lt (k.toNat - a.toNat) a.toNat (IntKind.i64.wrap (a + z)).toNat k.toNat l) (3:TypeId))].length = 2∧2 ≤ (St.mk [some (HB.cells [AV.vs l len Tok.none] 25),some (HB.cells cs 3)] [] []).hs.length)∧z0l Tryz.X157 (cd PP 157 [1,1,1,1,0,0]) ([AV.row 1 0 n c,I k,AV.fn (Fn.func 124) [] [AV.ptr 0 0],X,X,X,I (IntKind.i64.wrap (z * (2:Int)))]++List.replicate 56 X) (St.mk [some (HB.cells [AV.vs l len Tok.none] 25),some (HB.cells (onS l cs fun (lt:Nat→Nat→Bool) (l:List Nat)=>smg lt (k.toNat - a.toNat) a.toNat (IntKind.i64.wrap (a + z)).toNat k.toNat l) 3)] [] []) (z0d 2 (z0s Tryz.X157 157 Q))) (z0l Tryz.X157 (cd PP 157 [1,1,1,1,0,0]) ([AV.row 1 0 n c,I k,AV.fn (Fn.func 124) [] [AV.ptr 0 0],X,X,X,I (IntKind.i64.wrap (z * (2:Int)))]++List.replicate 56 X) (St.mk [some (HB.cells [AV.vs l len Tok.none] 25),some (HB.cells cs 3)] [] []) (z0d 2 (z0s Tryz.X157 157 Q))))):=by kernel_rfl
theorem w60 (n c:Nat) (l cs:List AV) (len:Nat) (Q:CR→List (Option HB)→Prop):wpS Tryz.X123 123 [.row 1 0 n c,.fn (.func 124) [] [.ptr 0 0]] [some (.cells [.vs l len .none] 25),some (.cells cs 3)] Q =
 ((25 = (25:TypeId)∧3 = (3:TypeId)∧n ≤ 24∧okS l cs len n∧(↑n:Int) = (↑n:Int))∧(noHL 2 ([]++[AV.row 1 0 n c,I n,AV.fn (Fn.func 124) [] [AV.ptr 0 0]]++[]) = true∧(List.take 2 (St.mk [some (HB.cells [AV.vs l len Tok.none] 25),some (HB.cells cs 3)] [] []).hs).all (z1i 2) = true∧[some (HB.cells [AV.vs l len Tok.none] (25:TypeId)),some (HB.cells (onS l cs fun (lt:Nat→Nat→Bool) (l:List Nat)=>z8l lt n l) (3:TypeId))].length = 2∧2 ≤ (St.mk [some (HB.cells [AV.vs l len Tok.none] 25),some (HB.cells cs 3)] [] []).hs.length)∧cIf ((List.take Tryz.X123.bs (St.mk [some (HB.cells [AV.vs l len Tok.none] 25),some (HB.cells (onS l cs fun (lt:Nat→Nat→Bool) (l:List Nat)=>z8l lt n l) 3)] [] [1,0]).hs).all (okBlk Tryz.X123.bs)) (Q (CR.ret (AV.tup [])) [some (HB.cells [AV.vs (z0e 0 l) len Tok.none] 25),some (HB.cells (z0e 0 (onS l cs fun (lt:Nat→Nat→Bool) (l:List Nat)=>z8l lt n l)) 3)]) False):=by kernel_rfl
theorem v79 (l:List AV) (len:Nat) (Q:CR→Prop):wpF Tryz.X79 79 [.agg [.vs l len .none]] Q =
 (cIf (decide ((↑len:Int) ≤ (↑len:Int))) (cIf (decide ((↑len:Int) * (↑8:Int) ≤ (140737488355328:Int))) (cIf (decide ((↑len:Int) ≤ (140737488355328:Int))) (z0l Tryz.X79 (cd Tryz.X79.P 79 [1,1,0,1,0,0]) ([X,AV.ptr 0 0,X,AV.row 1 0 len len,X,X,X,X,X,X,I len,I 0]++List.replicate 11 X) (St.mk [some (HB.cells [AV.vs l len Tok.none] 25),some (HB.cells (z2o (List.map AV.ofVal (Value.int IntKind.i64 (0:Int)).cells.toList) len) 3)] [] []) (z0d 0 (z0i Tryz.X79 (cd Tryz.X79.P 79 [1,1,1]) (z0f Tryz.X79 79 Q)))) False) False) False):=by kernel_rfl
theorem w0b (l cs:List AV) (len n c:Nat) (i:Int) (Q:CR→Prop):wpC Tryz.X79 (cd PP 79 [1,1,0,1,0,0]) ([X,.ptr 0 0,X,.row 1 0 n c,X,X,X,X,X,X,I n,I i]++List.replicate 11 X) ⟨[some (.cells [.vs l len .none] 25),some (.cells cs 3)],[],[]⟩ (z0r Tryz.X79 (cd PP 79 [1,1,0,1,0,0]) (z0d 0 (z0i Tryz.X79 (cd PP 79 [1,1,1]) (z0f Tryz.X79 79 Q)))) =
 (cIf (decide (i < (↑n:Int))) (cIf (decide ((0:Int) ≤ i)) (cIf (decide (i.toNat < n)) (cIf (decide (0 + i.toNat * 1 + 1 ≤ cs.length)) (z0l Tryz.X79 (cd PP 79 [1,1,0,1,0,0]) ([X,AV.ptr 0 0,X,AV.row 1 0 n c,X,X,X,X,X,X,I n,I (IntKind.i64.wrap (i + (1:Int)))]++List.replicate 11 X) (St.mk [some (HB.cells [AV.vs l len Tok.none] 25),some (HB.cells (z1y cs (0 + i.toNat * 1) [I i]) 3)] [] []) (z0d 0 (z0i Tryz.X79 (cd PP 79 [1,1,1]) (z0f Tryz.X79 79 Q)))) False) False) False) ((25 = (25:TypeId)∧3 = (3:TypeId)∧n ≤ 24∧okS l cs len n)∧(noHL 2 ([]++[AV.row 1 0 n c,AV.fn (Fn.func 124) [] [AV.ptr 0 0]]++[]) = true∧(List.take 2 (St.mk [some (HB.cells [AV.vs l len Tok.none] 25),some (HB.cells cs 3)] [] []).hs).all (z1i 2) = true∧[some (HB.cells [AV.vs l len Tok.none] (25:TypeId)),some (HB.cells (onS l cs fun (lt:Nat→Nat→Bool) (l:List Nat)=>z8l lt n l) (3:TypeId))].length = 2∧2 ≤ (St.mk [some (HB.cells [AV.vs l len Tok.none] 25),some (HB.cells cs 3)] [] []).hs.length)∧z0f Tryz.X79 79 Q EX.ret [X,AV.ptr 0 0,AV.row 1 0 n c,AV.row 1 0 n c,X,X,X,X,X,X,X,X,X,X,X,X,X,X,X,AV.row 1 0 n c,AV.fn (Fn.func 124) [] [AV.ptr 0 0],AV.tup [],AV.row 1 0 n c] (St.mk [some (HB.cells [AV.vs l len Tok.none] 25),some (HB.cells (onS l cs fun (lt:Nat→Nat→Bool) (l:List Nat)=>z8l lt n l) 3)] [] [1,0]))):=by kernel_rfl
theorem v78 (l cs:List AV) (len n:Nat) (p q:Prf) (Q:CR→Prop):wpF Tryz.X78 78 [.agg [.vs l len .none],.vs cs n .none,.agg (z0a p),.agg (z0a q),.raw .nilFunc] Q =
 (cIf (noHL 5 ([X,X,X,X,AV.raw RV.nilFunc,AV.ptr 0 0,X,AV.ptr 1 0,AV.ptr 2 0,X,AV.ptr 3 0,AV.ptr 4 0,I 0,X,X,X,X,X,X,AV.vs cs n Tok.none,I n,I 0]++List.replicate 73 X)) (cIf ([some (HB.cells [AV.vs l len Tok.none] 25),some (HB.cells (z0a p) 40),some (HB.cells (z0a q) 40),some (HB.cells [U 0,I 0,I 0] 42),some (HB.cells [U 0,I (-1),I (-1)] 42)].all (okBlk 5)) (z0l Tryz.X78 (cd Tryz.X78.P 78 [1,1,1,0,1,0,0]) ([X,X,X,X,AV.raw RV.nilFunc,AV.ptr 0 0,X,AV.ptr 1 0,AV.ptr 2 0,X,AV.ptr 3 0,AV.ptr 4 0,I 0,X,X,X,X,X,X,AV.vs cs n Tok.none,I n,I 0]++List.replicate 73 X) (St.mk [some (HB.cells [AV.vs l len Tok.none] 25),some (HB.cells (z0a p) 40),some (HB.cells (z0a q) 40),some (HB.cells [U 0,I 0,I 0] 42),some (HB.cells [U 0,I (-1),I (-1)] 42)] [] []) (z0d 0 (z0i Tryz.X78 (cd Tryz.X78.P 78 [1,1,1,1]) (z0f Tryz.X78 78 Q)))) False) False):=by kernel_rfl
theorem w0c (l cs:List AV) (len n:Nat) (p q:Prf) (v w r i:Int) (Q:CR→Prop):wpC Tryz.X78 (cd PP 78 [1,1,1,0,1,0,0]) ([X,X,X,X,.raw .nilFunc,.ptr 0 0,X,.ptr 1 0,.ptr 2 0,X,.ptr 3 0,.ptr 4 0,I r,X,X,X,X,X,X,.vs cs n .none,I n,I i]++List.replicate 73 X) ⟨[some (.cells [.vs l len .none] 25),some (.cells (z0a p) 40),some (.cells (z0a q) 40),some (.cells [U 0,I 0,I 0] 42),some (.cells [U 0,I v,I w] 42)],[],[]⟩ (z0r Tryz.X78 (cd PP 78 [1,1,1,0,1,0,0]) (z0d 0 (z0i Tryz.X78 (cd PP 78 [1,1,1,1]) (z0f Tryz.X78 78 Q)))) =
 (cIf (decide (i < (↑n:Int))) (cIf (decide ((0:Int) ≤ i)) (cIf (decide (i.toNat < n)) (cIf (decide (n * 1 = cs.length)) (cIf (decide (0 < (List.drop (i.toNat * 1) cs).length)) (cIf (z1g (AV.ofVal (Value.int IntKind.i64 (0:Int))) ((List.drop (i.toNat * 1) cs).getD 0 X)) (cIf (decide ((0:Int) ≤ cI (List.drop (i.toNat * 1) cs) 0)) (cIf (decide ((cI (List.drop (i.toNat * 1) cs) 0).toNat < len)) (cIf (decide (len * 8 = l.length)) (cIf (decide (8 ≤ (List.drop ((cI (List.drop (i.toNat * 1) cs) 0).toNat * 8) l).length)) (cIf (like zR (el (List.drop ((cI (List.drop (i.toNat * 1) cs) 0).toNat * 8) l) 0 8)) (cIf (decide (r > cI (el (List.drop ((cI (List.drop (i.toNat * 1) cs) 0).toNat * 8) l) 0 8) 1)) (cIf ([some (HB.cells [AV.vs l len Tok.none] 25),some (HB.cells (z0a p) 40),some (HB.cells (z0a q) 40),some (HB.cells [U 0,I 0,I 0] 42),some (HB.cells [U 0,I v,I w] 42)].all (okBlk 5)) (z0k Tryz.X78 (cd PP 78 [1,1,1,1]) ([X,X,X,X,X,X,X,X,X,X,AV.ptr 3 0,AV.ptr 4 0]++List.replicate 83 X) (St.mk [some (HB.cells [AV.vs l len Tok.none] 25),some (HB.cells (z0a p) 40),some (HB.cells (z0a q) 40),some (HB.cells [U 0,I 0,I 0] 42),some (HB.cells [U 0,I v,I w] 42)] [] []) (z0f Tryz.X78 78 Q)) False) (cIf (noHL (St.mk [some (HB.cells [AV.vs l len Tok.none] 25),some (HB.cells (z0a p) 40),some (HB.cells (z0a q) 40),some (HB.cells [U 0,I 0,I 0] 42),some (HB.cells [U 0,I v,I w] 42),some (HB.cells (elR (el (List.drop ((cI (List.drop (i.toNat * 1) cs) 0).toNat * 8) l) 0 8)) 73)] [] [5]).hs.length ([]++[AV.agg (z5k (el (List.drop ((cI (List.drop (i.toNat * 1) cs) 0).toNat * 8) l) 0 8)),AV.agg (z0a p),AV.agg (z0a q)]++[])) (((∃ (t:Tst),(z5k (el (List.drop ((cI (List.drop (i.toNat * 1) cs) 0).toNat * 8) l) 0 8)) = z0m t∧wfT t∧shT t = true)∧(∃ (a:Prf),(z0a p) = z0a a)∧∃ (b:Prf),(z0a q) = z0a b)∧St.mk [some (HB.cells [AV.vs l len Tok.none] 25),some (HB.cells (z0a p) 40),some (HB.cells (z0a q) 40),some (HB.cells [U 0,I 0,I 0] 42),some (HB.cells [U 0,I v,I w] 42),some (HB.cells (elR (el (List.drop ((cI (List.drop (i.toNat * 1) cs) 0).toNat * 8) l) 0 8)) 73)] [] [5] = St.mk [some (HB.cells [AV.vs l len Tok.none] 25),some (HB.cells (z0a p) 40),some (HB.cells (z0a q) 40),some (HB.cells [U 0,I 0,I 0] 42),some (HB.cells [U 0,I v,I w] 42),some (HB.cells (elR (el (List.drop ((cI (List.drop (i.toNat * 1) cs) 0).toNat * 8) l) 0 8)) 73)] [] [5]∧cIf (noHL (St.mk [some (HB.cells [AV.vs l len Tok.none] 25),some (HB.cells (z0a p) 40),some (HB.cells (z0a q) 40),some (HB.cells [U 0,I 0,I 0] 42),some (HB.cells [U 0,I v,I w] 42),some (HB.cells (elR (el (List.drop ((cI (List.drop (i.toNat * 1) cs) 0).toNat * 8) l) 0 8)) 73)] [] [5]).hs.length ([]++[AV.agg (z5k (el (List.drop ((cI (List.drop (i.toNat * 1) cs) 0).toNat * 8) l) 0 8)),AV.agg (z0a q),AV.agg (z0a p)]++[])) (((∃ (t:Tst),(z5k (el (List.drop ((cI (List.drop (i.toNat * 1) cs) 0).toNat * 8) l) 0 8)) = z0m t∧wfT t∧shT t = true)∧(∃ (a:Prf),(z0a q) = z0a a)∧∃ (b:Prf),(z0a p) = z0a b)∧St.mk [some (HB.cells [AV.vs l len Tok.none] 25),some (HB.cells (z0a p) 40),some (HB.cells (z0a q) 40),some (HB.cells [U 0,I 0,I 0] 42),some (HB.cells [U 0,I v,I w] 42),some (HB.cells (elR (el (List.drop ((cI (List.drop (i.toNat * 1) cs) 0).toNat * 8) l) 0 8)) 73)] [] [5] = St.mk [some (HB.cells [AV.vs l len Tok.none] 25),some (HB.cells (z0a p) 40),some (HB.cells (z0a q) 40),some (HB.cells [U 0,I 0,I 0] 42),some (HB.cells [U 0,I v,I w] 42),some (HB.cells (elR (el (List.drop ((cI (List.drop (i.toNat * 1) cs) 0).toNat * 8) l) 0 8)) 73)] [] [5]∧cIf (noHL 6 ([X,X,X,X,AV.raw RV.nilFunc,AV.ptr 0 0,X,AV.ptr 1 0,AV.ptr 2 0,X,AV.ptr 3 0,AV.ptr 4 0,I r,X,I (cI (List.drop (i.toNat * 1) cs) 0),AV.ptr 5 0,AV.bool (z0g z0m (fun (t:Tst)=>z0g z0a (fun (a:Prf)=>z0g z0a (fun (b:Prf)=>hoT t a b) false (z0a q)) false (z0a p)) false (z5k (el (List.drop ((cI (List.drop (i.toNat * 1) cs) 0).toNat * 8) l) 0 8))),AV.bool (z0g z0m (fun (t:Tst)=>z0g z0a (fun (a:Prf)=>z0g z0a (fun (b:Prf)=>hoT t a b) false (z0a p)) false (z0a q)) false (z5k (el (List.drop ((cI (List.drop (i.toNat * 1) cs) 0).toNat * 8) l) 0 8))),X,AV.vs cs n Tok.none,I n,I i]++List.replicate 73 X)) (cIf ([some (HB.cells [AV.vs l len Tok.none] 25),some (HB.cells (z0a p) 40),some (HB.cells (z0a q) 40),some (HB.cells [U 0,I 0,I 0] 42),some (HB.cells [U 0,I v,I w] 42),some (HB.cells (elR (el (List.drop ((cI (List.drop (i.toNat * 1) cs) 0).toNat * 8) l) 0 8)) 73)].all (okBlk 6)) (z0k Tryz.X78 (cd PP 78 [1,1,1,0,1,0,0,1,1,0,0,1,1,1,1]) ([X,X,X,X,AV.raw RV.nilFunc,AV.ptr 0 0,X,AV.ptr 1 0,AV.ptr 2 0,X,AV.ptr 3 0,AV.ptr 4 0,I r,X,I (cI (List.drop (i.toNat * 1) cs) 0),AV.ptr 5 0,AV.bool (z0g z0m (fun (t:Tst)=>z0g z0a (fun (a:Prf)=>z0g z0a (fun (b:Prf)=>hoT t a b) false (z0a q)) false (z0a p)) false (z5k (el (List.drop ((cI (List.drop (i.toNat * 1) cs) 0).toNat * 8) l) 0 8))),AV.bool (z0g z0m (fun (t:Tst)=>z0g z0a (fun (a:Prf)=>z0g z0a (fun (b:Prf)=>hoT t a b) false (z0a p)) false (z0a q)) false (z5k (el (List.drop ((cI (List.drop (i.toNat * 1) cs) 0).toNat * 8) l) 0 8))),X,AV.vs cs n Tok.none,I n,I i]++List.replicate 73 X) (St.mk [some (HB.cells [AV.vs l len Tok.none] 25),some (HB.cells (z0a p) 40),some (HB.cells (z0a q) 40),some (HB.cells [U 0,I 0,I 0] 42),some (HB.cells [U 0,I v,I w] 42),some (HB.cells (elR (el (List.drop ((cI (List.drop (i.toNat * 1) cs) 0).toNat * 8) l) 0 8)) 73)] [] []) (z0d 1 (z0i Tryz.X78 (cd PP 78 [1,1,1,0,1,0,0,1,1,1]) (z0r Tryz.X78 (cd PP 78 [1,1,1,0,1,0,0]) (z0d 0 (z0i Tryz.X78 (cd PP 78 [1,1,1,1]) (z0f Tryz.X78 78 Q))))))) False) False) False) False)) False) False) False) False) False) False) False) False) False) False) (cIf ([some (HB.cells [AV.vs l len Tok.none] 25),some (HB.cells (z0a p) 40),some (HB.cells (z0a q) 40),some (HB.cells [U 0,I 0,I 0] 42),some (HB.cells [U 0,I v,I w] 42)].all (okBlk 5)) (z0k Tryz.X78 (cd PP 78 [1,1,1,1]) ([X,X,X,X,X,X,X,X,X,X,AV.ptr 3 0,AV.ptr 4 0]++List.replicate 83 X) (St.mk [some (HB.cells [AV.vs l len Tok.none] 25),some (HB.cells (z0a p) 40),some (HB.cells (z0a q) 40),some (HB.cells [U 0,I 0,I 0] 42),some (HB.cells [U 0,I v,I w] 42)] [] []) (z0f Tryz.X78 78 Q)) False)):=by kernel_rfl
theorem w56 (l cs:List AV) (len n:Nat) (p q:Prf) (x:Rul) (t b:Bool) (v w r i j:Int) (Q:CR→Prop):wpC Tryz.X78 (cd PP 78 [1,1,1,0,1,0,0,1,1,0,0,1,1,1,1]) ([X,X,X,X,.raw .nilFunc,.ptr 0 0,X,.ptr 1 0,.ptr 2 0,X,.ptr 3 0,.ptr 4 0,I r,X,I j,.ptr 5 0,Bo t,Bo b,X,.vs cs n .none,I n,I i]++List.replicate 73 X) ⟨[some (.cells [.vs l len .none] 25),some (.cells (z0a p) 40),some (.cells (z0a q) 40),some (.cells [U 0,I 0,I 0] 42),some (.cells [U 0,I v,I w] 42),some (.cells (z1d x) 73)],[],[]⟩ (z0d 1 (z0i Tryz.X78 (cd PP 78 [1,1,1,0,1,0,0,1,1,1]) (z0r Tryz.X78 (cd PP 78 [1,1,1,0,1,0,0]) (z0d 0 (z0i Tryz.X78 (cd PP 78 [1,1,1,1]) (z0f Tryz.X78 78 Q)))))) =
 (cIf (!t) (cIf (!b) (cIf (noHL 5 ([X,X,X,X,AV.raw RV.nilFunc,AV.ptr 0 0,X,AV.ptr 1 0,AV.ptr 2 0,X,AV.ptr 3 0,AV.ptr 4 0,I r,X,X,X,X,X,X,AV.vs cs n Tok.none,I n,I (IntKind.i64.wrap (i + (1:Int)))]++List.replicate 73 X)) (cIf ([some (HB.cells [AV.vs l len Tok.none] 25),some (HB.cells (z0a p) 40),some (HB.cells (z0a q) 40),some (HB.cells [U 0,I 0,I 0] 42),some (HB.cells [U 0,I v,I w] 42)].all (okBlk 5)) (z0l Tryz.X78 (cd PP 78 [1,1,1,0,1,0,0]) ([X,X,X,X,AV.raw RV.nilFunc,AV.ptr 0 0,X,AV.ptr 1 0,AV.ptr 2 0,X,AV.ptr 3 0,AV.ptr 4 0,I r,X,X,X,X,X,X,AV.vs cs n Tok.none,I n,I (IntKind.i64.wrap (i + (1:Int)))]++List.replicate 73 X) (St.mk [some (HB.cells [AV.vs l len Tok.none] 25),some (HB.cells (z0a p) 40),some (HB.cells (z0a q) 40),some (HB.cells [U 0,I 0,I 0] 42),some (HB.cells [U 0,I v,I w] 42)] [] []) (z0d 0 (z0i Tryz.X78 (cd PP 78 [1,1,1,1]) (z0f Tryz.X78 78 Q)))) False) False) (cIf (noHL 5 ([X,X,X,X,AV.raw RV.nilFunc,AV.ptr 0 0,X,AV.ptr 1 0,AV.ptr 2 0,X,AV.ptr 3 0,AV.ptr 4 0,I x.rank,X,I j,X,Bo t,Bo b,X,AV.vs cs n Tok.none,I n,I i]++List.replicate 73 X)) (cIf ([some (HB.cells [AV.vs l len Tok.none] 25),some (HB.cells (z0a p) 40),some (HB.cells (z0a q) 40),some (HB.cells [U 0,I 0,I 0] 42),some (HB.cells [U 0,I v,I w] 42)].all (okBlk 5)) (z0k Tryz.X78 (cd PP 78 [1,1,1,0,1,0,0,1,1,0,0,1,1,1,1,1,1,1]) ([X,X,X,X,AV.raw RV.nilFunc,AV.ptr 0 0,X,AV.ptr 1 0,AV.ptr 2 0,X,AV.ptr 3 0,AV.ptr 4 0,I x.rank,X,I j,X,Bo t,Bo b,X,AV.vs cs n Tok.none,I n,I i]++List.replicate 73 X) (St.mk [some (HB.cells [AV.vs l len Tok.none] 25),some (HB.cells (z0a p) 40),some (HB.cells (z0a q) 40),some (HB.cells [U 0,I 0,I 0] 42),some (HB.cells [U 0,I v,I w] 42)] [] []) (z0d 1 (z0i Tryz.X78 (cd PP 78 [1,1,1,0,1,0,0,1,1,1]) (z0r Tryz.X78 (cd PP 78 [1,1,1,0,1,0,0]) (z0d 0 (z0i Tryz.X78 (cd PP 78 [1,1,1,1]) (z0f Tryz.X78 78 Q))))))) False) False)) (cIf (noHL 5 ([X,X,X,X,AV.raw RV.nilFunc,AV.ptr 0 0,X,AV.ptr 1 0,AV.ptr 2 0,X,AV.ptr 3 0,AV.ptr 4 0,I x.rank,X,I j,X,Bo t,Bo b,X,AV.vs cs n Tok.none,I n,I i]++List.replicate 73 X)) (cIf ([some (HB.cells [AV.vs l len Tok.none] 25),some (HB.cells (z0a p) 40),some (HB.cells (z0a q) 40),some (HB.cells [U 0,I 0,I 0] 42),some (HB.cells [U 0,I v,I w] 42)].all (okBlk 5)) (z0k Tryz.X78 (cd PP 78 [1,1,1,0,1,0,0,1,1,0,0,1,1,1,1,1,1,1]) ([X,X,X,X,AV.raw RV.nilFunc,AV.ptr 0 0,X,AV.ptr 1 0,AV.ptr 2 0,X,AV.ptr 3 0,AV.ptr 4 0,I x.rank,X,I j,X,Bo t,Bo b,X,AV.vs cs n Tok.none,I n,I i]++List.replicate 73 X) (St.mk [some (HB.cells [AV.vs l len Tok.none] 25),some (HB.cells (z0a p) 40),some (HB.cells (z0a q) 40),some (HB.cells [U 0,I 0,I 0] 42),some (HB.cells [U 0,I v,I w] 42)] [] []) (z0d 1 (z0i Tryz.X78 (cd PP 78 [1,1,1,0,1,0,0,1,1,1]) (z0r Tryz.X78 (cd PP 78 [1,1,1,0,1,0,0]) (z0d 0 (z0i Tryz.X78 (cd PP 78 [1,1,1,1]) (z0f Tryz.X78 78 Q))))))) False) False)):=by kernel_rfl
theorem w55 (l cs:List AV) (len n:Nat) (p q:Prf) (t b:Bool) (v w r i j:Int) (Q:CR→Prop):wpC Tryz.X78 (cd PP 78 [1,1,1,0,1,0,0,1,1,0,0,1,1,1,1,1,1,1]) ([X,X,X,X,.raw .nilFunc,.ptr 0 0,X,.ptr 1 0,.ptr 2 0,X,.ptr 3 0,.ptr 4 0,I r,X,I j,X,Bo t,Bo b,X,.vs cs n .none,I n,I i]++List.replicate 73 X) ⟨[some (.cells [.vs l len .none] 25),some (.cells (z0a p) 40),some (.cells (z0a q) 40),some (.cells [U 0,I 0,I 0] 42),some (.cells [U 0,I v,I w] 42)],[],[]⟩ (z0d 1 (z0i Tryz.X78 (cd PP 78 [1,1,1,0,1,0,0,1,1,1]) (z0r Tryz.X78 (cd PP 78 [1,1,1,0,1,0,0]) (z0d 0 (z0i Tryz.X78 (cd PP 78 [1,1,1,1]) (z0f Tryz.X78 78 Q)))))) =
 (cIf t (cIf (decide (v < (0:Int))) (cIf (noHL 5 ([X,X,X,X,AV.raw RV.nilFunc,AV.ptr 0 0,X,AV.ptr 1 0,AV.ptr 2 0,X,AV.ptr 3 0,AV.ptr 4 0,I r,X,I j,X,X,Bo b,X,AV.vs cs n Tok.none,I n,I i]++List.replicate 73 X)) (cIf ([some (HB.cells [AV.vs l len Tok.none] 25),some (HB.cells (z0a p) 40),some (HB.cells (z0a q) 40),some (HB.cells [U 0,I 0,I 0] 42),some (HB.cells [U 0,I j,I w] 42)].all (okBlk 5)) (z0k Tryz.X78 (cd PP 78 [1,1,1,0,1,0,0,1,1,0,0,1,1,1,1,1,1,1,1]) ([X,X,X,X,AV.raw RV.nilFunc,AV.ptr 0 0,X,AV.ptr 1 0,AV.ptr 2 0,X,AV.ptr 3 0,AV.ptr 4 0,I r,X,I j,X,X,Bo b,X,AV.vs cs n Tok.none,I n,I i]++List.replicate 73 X) (St.mk [some (HB.cells [AV.vs l len Tok.none] 25),some (HB.cells (z0a p) 40),some (HB.cells (z0a q) 40),some (HB.cells [U 0,I 0,I 0] 42),some (HB.cells [U 0,I j,I w] 42)] [] []) (z0d 1 (z0i Tryz.X78 (cd PP 78 [1,1,1,0,1,0,0,1,1,1]) (z0r Tryz.X78 (cd PP 78 [1,1,1,0,1,0,0]) (z0d 0 (z0i Tryz.X78 (cd PP 78 [1,1,1,1]) (z0f Tryz.X78 78 Q))))))) False) False) (cIf (noHL 5 ([X,X,X,X,AV.raw RV.nilFunc,AV.ptr 0 0,X,AV.ptr 1 0,AV.ptr 2 0,X,AV.ptr 3 0,AV.ptr 4 0,I r,X,I j,X,X,Bo b,X,AV.vs cs n Tok.none,I n,I i]++List.replicate 73 X)) (cIf ([some (HB.cells [AV.vs l len Tok.none] 25),some (HB.cells (z0a p) 40),some (HB.cells (z0a q) 40),some (HB.cells [U 0,I 0,I 0] 42),some (HB.cells [U 0,I v,I w] 42)].all (okBlk 5)) (z0k Tryz.X78 (cd PP 78 [1,1,1,0,1,0,0,1,1,0,0,1,1,1,1,1,1,1,1]) ([X,X,X,X,AV.raw RV.nilFunc,AV.ptr 0 0,X,AV.ptr 1 0,AV.ptr 2 0,X,AV.ptr 3 0,AV.ptr 4 0,I r,X,I j,X,X,Bo b,X,AV.vs cs n Tok.none,I n,I i]++List.replicate 73 X) (St.mk [some (HB.cells [AV.vs l len Tok.none] 25),some (HB.cells (z0a p) 40),some (HB.cells (z0a q) 40),some (HB.cells [U 0,I 0,I 0] 42),some (HB.cells [U 0,I v,I w] 42)] [] []) (z0d 1 (z0i Tryz.X78 (cd PP 78 [1,1,1,0,1,0,0,1,1,1]) (z0r Tryz.X78 (cd PP 78 [1,1,1,0,1,0,0]) (z0d 0 (z0i Tryz.X78 (cd PP 78 [1,1,1,1]) (z0f Tryz.X78 78 Q))))))) False) False)) (cIf (noHL 5 ([X,X,X,X,AV.raw RV.nilFunc,AV.ptr 0 0,X,AV.ptr 1 0,AV.ptr 2 0,X,AV.ptr 3 0,AV.ptr 4 0,I r,X,I j,X,X,Bo b,X,AV.vs cs n Tok.none,I n,I i]++List.replicate 73 X)) (cIf ([some (HB.cells [AV.vs l len Tok.none] 25),some (HB.cells (z0a p) 40),some (HB.cells (z0a q) 40),some (HB.cells [U 0,I 0,I 0] 42),some (HB.cells [U 0,I v,I w] 42)].all (okBlk 5)) (z0k Tryz.X78 (cd PP 78 [1,1,1,0,1,0,0,1,1,0,0,1,1,1,1,1,1,1,1]) ([X,X,X,X,AV.raw RV.nilFunc,AV.ptr 0 0,X,AV.ptr 1 0,AV.ptr 2 0,X,AV.ptr 3 0,AV.ptr 4 0,I r,X,I j,X,X,Bo b,X,AV.vs cs n Tok.none,I n,I i]++List.replicate 73 X) (St.mk [some (HB.cells [AV.vs l len Tok.none] 25),some (HB.cells (z0a p) 40),some (HB.cells (z0a q) 40),some (HB.cells [U 0,I 0,I 0] 42),some (HB.cells [U 0,I v,I w] 42)] [] []) (z0d 1 (z0i Tryz.X78 (cd PP 78 [1,1,1,0,1,0,0,1,1,1]) (z0r Tryz.X78 (cd PP 78 [1,1,1,0,1,0,0]) (z0d 0 (z0i Tryz.X78 (cd PP 78 [1,1,1,1]) (z0f Tryz.X78 78 Q))))))) False) False)):=by kernel_rfl
theorem w54 (l cs:List AV) (len n:Nat) (p q:Prf) (b:Bool) (v w r i j:Int) (Q:CR→Prop):wpC Tryz.X78 (cd PP 78 [1,1,1,0,1,0,0,1,1,0,0,1,1,1,1,1,1,1,1]) ([X,X,X,X,.raw .nilFunc,.ptr 0 0,X,.ptr 1 0,.ptr 2 0,X,.ptr 3 0,.ptr 4 0,I r,X,I j,X,X,Bo b,X,.vs cs n .none,I n,I i]++List.replicate 73 X) ⟨[some (.cells [.vs l len .none] 25),some (.cells (z0a p) 40),some (.cells (z0a q) 40),some (.cells [U 0,I 0,I 0] 42),some (.cells [U 0,I v,I w] 42)],[],[]⟩ (z0d 1 (z0i Tryz.X78 (cd PP 78 [1,1,1,0,1,0,0,1,1,1]) (z0r Tryz.X78 (cd PP 78 [1,1,1,0,1,0,0]) (z0d 0 (z0i Tryz.X78 (cd PP 78 [1,1,1,1]) (z0f Tryz.X78 78 Q)))))) =
 (cIf b (cIf (decide (w < (0:Int))) (cIf (noHL 5 ([X,X,X,X,AV.raw RV.nilFunc,AV.ptr 0 0,X,AV.ptr 1 0,AV.ptr 2 0,X,AV.ptr 3 0,AV.ptr 4 0,I r,X,X,X,X,X,X,AV.vs cs n Tok.none,I n,I (IntKind.i64.wrap (i + (1:Int)))]++List.replicate 73 X)) (cIf ([some (HB.cells [AV.vs l len Tok.none] 25),some (HB.cells (z0a p) 40),some (HB.cells (z0a q) 40),some (HB.cells [U 0,I 0,I 0] 42),some (HB.cells [U 0,I v,I j] 42)].all (okBlk 5)) (z0l Tryz.X78 (cd PP 78 [1,1,1,0,1,0,0]) ([X,X,X,X,AV.raw RV.nilFunc,AV.ptr 0 0,X,AV.ptr 1 0,AV.ptr 2 0,X,AV.ptr 3 0,AV.ptr 4 0,I r,X,X,X,X,X,X,AV.vs cs n Tok.none,I n,I (IntKind.i64.wrap (i + (1:Int)))]++List.replicate 73 X) (St.mk [some (HB.cells [AV.vs l len Tok.none] 25),some (HB.cells (z0a p) 40),some (HB.cells (z0a q) 40),some (HB.cells [U 0,I 0,I 0] 42),some (HB.cells [U 0,I v,I j] 42)] [] []) (z0d 0 (z0i Tryz.X78 (cd PP 78 [1,1,1,1]) (z0f Tryz.X78 78 Q)))) False) False) (cIf (noHL 5 ([X,X,X,X,AV.raw RV.nilFunc,AV.ptr 0 0,X,AV.ptr 1 0,AV.ptr 2 0,X,AV.ptr 3 0,AV.ptr 4 0,I r,X,X,X,X,X,X,AV.vs cs n Tok.none,I n,I (IntKind.i64.wrap (i + (1:Int)))]++List.replicate 73 X)) (cIf ([some (HB.cells [AV.vs l len Tok.none] 25),some (HB.cells (z0a p) 40),some (HB.cells (z0a q) 40),some (HB.cells [U 0,I 0,I 0] 42),some (HB.cells [U 0,I v,I w] 42)].all (okBlk 5)) (z0l Tryz.X78 (cd PP 78 [1,1,1,0,1,0,0]) ([X,X,X,X,AV.raw RV.nilFunc,AV.ptr 0 0,X,AV.ptr 1 0,AV.ptr 2 0,X,AV.ptr 3 0,AV.ptr 4 0,I r,X,X,X,X,X,X,AV.vs cs n Tok.none,I n,I (IntKind.i64.wrap (i + (1:Int)))]++List.replicate 73 X) (St.mk [some (HB.cells [AV.vs l len Tok.none] 25),some (HB.cells (z0a p) 40),some (HB.cells (z0a q) 40),some (HB.cells [U 0,I 0,I 0] 42),some (HB.cells [U 0,I v,I w] 42)] [] []) (z0d 0 (z0i Tryz.X78 (cd PP 78 [1,1,1,1]) (z0f Tryz.X78 78 Q)))) False) False)) (cIf (noHL 5 ([X,X,X,X,AV.raw RV.nilFunc,AV.ptr 0 0,X,AV.ptr 1 0,AV.ptr 2 0,X,AV.ptr 3 0,AV.ptr 4 0,I r,X,X,X,X,X,X,AV.vs cs n Tok.none,I n,I (IntKind.i64.wrap (i + (1:Int)))]++List.replicate 73 X)) (cIf ([some (HB.cells [AV.vs l len Tok.none] 25),some (HB.cells (z0a p) 40),some (HB.cells (z0a q) 40),some (HB.cells [U 0,I 0,I 0] 42),some (HB.cells [U 0,I v,I w] 42)].all (okBlk 5)) (z0l Tryz.X78 (cd PP 78 [1,1,1,0,1,0,0]) ([X,X,X,X,AV.raw RV.nilFunc,AV.ptr 0 0,X,AV.ptr 1 0,AV.ptr 2 0,X,AV.ptr 3 0,AV.ptr 4 0,I r,X,X,X,X,X,X,AV.vs cs n Tok.none,I n,I (IntKind.i64.wrap (i + (1:Int)))]++List.replicate 73 X) (St.mk [some (HB.cells [AV.vs l len Tok.none] 25),some (HB.cells (z0a p) 40),some (HB.cells (z0a q) 40),some (HB.cells [U 0,I 0,I 0] 42),some (HB.cells [U 0,I v,I w] 42)] [] []) (z0d 0 (z0i Tryz.X78 (cd PP 78 [1,1,1,1]) (z0f Tryz.X78 78 Q)))) False) False)):=by kernel_rfl
theorem w53 (rl:List AV) (p q:Prf) (v w:Int) (Q:CR→Prop):wpC Tryz.X78 (cd PP 78 [1,1,1,1]) ([X,X,X,X,X,X,X,X,X,X,.ptr 3 0,.ptr 4 0]++List.replicate 83 X) ⟨[some (.cells rl 25),some (.cells (z0a p) 40),some (.cells (z0a q) 40),some (.cells [U 0,I 0,I 0] 42),some (.cells [U 0,I v,I w] 42)],[],[]⟩ (z0f Tryz.X78 78 Q) =
 (cIf (decide (v ≥ (0:Int))) (cIf (decide (w ≥ (0:Int))) (Q (CR.ret (AV.agg [U 3,I v,I w]))) (cIf (decide (v ≥ (0:Int))) (Q (CR.ret (AV.agg [U 1,I v,I w]))) (cIf (decide (w ≥ (0:Int))) (Q (CR.ret (AV.agg [U 2,I v,I w]))) (Q (CR.ret (AV.agg [U 0,I v,I w])))))) (cIf (decide (v ≥ (0:Int))) (Q (CR.ret (AV.agg [U 1,I v,I w]))) (cIf (decide (w ≥ (0:Int))) (Q (CR.ret (AV.agg [U 2,I v,I w]))) (Q (CR.ret (AV.agg [U 0,I v,I w])))))):=by kernel_rfl
theorem v28 (l:List AV) (len:Nat) (p q:Prf) (Q:CR→Prop):wpF Tryz.X28 28 [.agg [.vs l len .none],.agg (z0a p),.agg (z0a q)] Q =
 (((∃ (rs:List Rul),l = z0c rs∧len = rs.length∧z1h rs)∧(∃ (p_1:Prf),(z0a p) = z0a p_1)∧∃ (q_1:Prf),(z0a q) = z0a q_1)∧cIf (z0g z0c (fun (rs:List Rul)=>z0g z0a (fun (p:Prf)=>z0g z0a (fun (q:Prf)=>z1v rs p q) (0:Int) (z0a q)) (0:Int) (z0a p)) (0:Int) l != (0:Int)) (Q (CR.ret (AV.tup [AV.agg [U 0,I 0,I 0],AV.int IntKind.i64 (z0g z0c (fun (rs:List Rul)=>z0g z0a (fun (p:Prf)=>z0g z0a (fun (q:Prf)=>z1v rs p q) (0:Int) (z0a q)) (0:Int) (z0a p)) (0:Int) l)]))) (cIf (noHL (St.mk [some (HB.cells [AV.vs l len Tok.none] 25),some (HB.cells (z0a p) 40),some (HB.cells (z0a q) 40),some (HB.cells [U 0,I 0,I 0] 42)] [] []).hs.length ([]++[AV.agg [AV.vs l len Tok.none]]++[])) ((∃ (rs:List Rul),l = z0c rs∧len = rs.length∧z1j rs)∧St.mk [some (HB.cells [AV.vs l len Tok.none] 25),some (HB.cells (z0a p) 40),some (HB.cells (z0a q) 40),some (HB.cells [U 0,I 0,I 0] 42)] [] [] = St.mk [some (HB.cells [AV.vs l len Tok.none] 25),some (HB.cells (z0a p) 40),some (HB.cells (z0a q) 40),some (HB.cells [U 0,I 0,I 0] 42)] [] []∧cIf (noHL (St.mk [some (HB.cells [AV.vs l len Tok.none] 25),some (HB.cells (z0a p) 40),some (HB.cells (z0a q) 40),some (HB.cells [U 0,I 0,I 0] 42)] [] []).hs.length ([]++[AV.agg [AV.vs l len Tok.none],AV.vs (encD (z0g z0c z05 [] l)) len Tok.none,AV.agg (z0a p),AV.agg (z0a q),AV.raw RV.nilFunc]++[])) (((∃ (rs:List Rul),∃ (ord:List Nat),l = z0c rs∧len = rs.length∧z1j rs∧(∀ (x:Rul),x ∈ rs→shT x.t = true)∧encD (z0g z0c z05 [] l) = encD ord∧len = ord.length∧ord.length ≤ 24∧∀ (x:Nat),x ∈ ord→x < rs.length)∧(∃ (p_1:Prf),(z0a p) = z0a p_1)∧∃ (q_1:Prf),(z0a q) = z0a q_1)∧St.mk [some (HB.cells [AV.vs l len Tok.none] 25),some (HB.cells (z0a p) 40),some (HB.cells (z0a q) 40),some (HB.cells [U 0,I 0,I 0] 42)] [] [] = St.mk [some (HB.cells [AV.vs l len Tok.none] 25),some (HB.cells (z0a p) 40),some (HB.cells (z0a q) 40),some (HB.cells [U 0,I 0,I 0] 42)] [] []∧Q (CR.ret (AV.tup [AV.agg [AV.int IntKind.u8 (z01 (dvP l (encD (z0g z0c z05 [] l)) (z0a p) (z0a q)).fst (dvP l (encD (z0g z0c z05 [] l)) (z0a p) (z0a q)).snd),AV.int IntKind.i64 (dvP l (encD (z0g z0c z05 [] l)) (z0a p) (z0a q)).fst,AV.int IntKind.i64 (dvP l (encD (z0g z0c z05 [] l)) (z0a p) (z0a q)).snd],I 0]))) False) False)):=by kernel_rfl
end Go.Proofs
set_option maxRecDepth 100000
set_option linter.unusedVariables false
namespace Go.Proofs
open Go Go.Ev
theorem z7j:BaseOk Tryz.B157:=(Tryz.bok.hk (ct198.hook Tryz.gtpB)).hk (ct199.hook Tryz.gtpB)
section
variable {n c:Nat} (hn:n ≤ 24) {rs:List Rul} (hrs:z1j rs) {Q:CR→List (Option HB)→Prop}
include hn hrs
theorem y4e (l l':List Nat) (x:List AV) (hx:noHL 2 x = true):noHL 2 ([]++x++[]) = true∧(List.take 2 (hsS rs l)).all (z1i 2) = true∧(hsS rs l').length = 2∧2 ≤ (hsS rs l).length :=
 have _:=hn
 have _:=hrs
 ⟨by simpa using hx,by simpa using x2x (z4k rs) l [],rfl,Nat.le_refl _⟩
theorem x5o {z:Int} {l:List Nat} (hz:(n:Int) ≤ z) (hQ:Q (.ret (.tup [])) (hsS rs l)) :
  z0l Tryz.X157 (cd PP 157 [1,1,1,1,0,0]) ([.row 1 0 n c,I n,.fn (.func 124) [] [.ptr 0 0],X,X,X,I z]++List.replicate 56 X) ⟨hsS rs l,[],[]⟩ (z0d 2 (z0s Tryz.X157 157 Q)):=by
 have _:=hn
 have _:=hrs
 refine z0n (C:=Tryz.X157) (z00 z7j (Cts.nil _)) (z1c z7j (Cts.nil _)) ?_
 rw [z3k,x7k]
 refine z0p (decide_eq_false (by omega)) (z0b (y39 (z4k rs) l []) ?_)
 rw [(z4k rs).2,z2x]
 exact hQ
theorem st7 {l:List Nat} (hl:l.length = n) (hm:∀ x ∈ l,x < rs.length) (hQ:Q (.ret (.tup [])) (hsS rs (if 20 < n then smg (ltR rs) n 0 20 n l else l))) :
  z0l Tryz.X157 (cd PP 157 [1,1,1,1,0,0]) ([.row 1 0 n c,I n,.fn (.func 124) [] [.ptr 0 0],X,X,X,I 20]++List.replicate 56 X) ⟨hsS rs l,[],[]⟩ (z0d 2 (z0s Tryz.X157 157 Q)):=by
 by_cases h:20 < n
 ·rw [if_pos h] at hQ
  refine z0n (C:=Tryz.X157) (z00 z7j (Cts.nil _)) (z1c z7j (Cts.nil _)) ?_
  rw [z3k,x7k]
  refine z0b (decide_eq_true (by omega)) ?_
  refine z0n (C:=Tryz.X157) (z00 z7j (Cts.nil _)) (z1c z7j (Cts.nil _)) ?_
  rw [w3a,z5r,z5r]
  rw [show IntKind.i64.wrap ((2:Int) * 20) = 40 from by decide,show IntKind.i64.wrap ((0:Int) + 20) = 20 from by decide]
  refine z0p (decide_eq_false (by omega)) (z0b (decide_eq_true (by omega)) ?_)
  simp only [Int.toNat_natCast]
  rw [show (20:Int).toNat = 20 from rfl,show (0:Int).toNat = 0 from rfl,Nat.sub_zero]
  refine ⟨⟨trivial,trivial,hn,⟨rs,l,rfl,rfl,hrs,rfl,hl,hm⟩,by omega,by omega,by omega,by omega⟩,y4e hn hrs l _ _ (by simp [noHL,noH]),?_⟩
  rw [show IntKind.i64.wrap ((20:Int) * 2) = 40 from by decide]
  exact x5o hn hrs (by omega) hQ
 ·rw [if_neg h] at hQ
  exact x5o hn hrs (by omega) hQ
theorem st2 {l:List Nat} (hl:l.length = n) (hm:∀ x ∈ l,x < rs.length) (hQ:Q (.ret (.tup [])) (hsS rs (z8l (ltR rs) n l))) :
  z0l Tryz.X157 (cd PP 157 [1,1,0,0,0]) ([.row 1 0 n c,I n,.fn (.func 124) [] [.ptr 0 0],X,X,X,I 20,I 0,I 20]++List.replicate 54 X) ⟨hsS rs l,[],[]⟩ (z0d 0 (z0i Tryz.X157 (cd PP 157 [1,1,1]) (z0s Tryz.X157 157 Q))):=by
 unfold z8l at hQ
 refine z0n (C:=Tryz.X157) (z00 z7j (Cts.nil _)) (z1c z7j (Cts.nil _)) ?_
 rw [z3k,x7l,z5r,z5r]
 simp only [Int.toNat_natCast]
 rw [show (20:Int).toNat = 20 from rfl,show (0:Int).toNat = 0 from rfl]
 by_cases h:n < 20
 ·rw [if_pos h] at hQ
  have hp:(z4i (ltR rs) 0 n l).Perm l:=z78 _ (by omega)
  refine z0p (decide_eq_false (by omega)) ?_
  refine ⟨⟨trivial,trivial,hn,⟨rs,l,rfl,rfl,hrs,rfl,hl,hm⟩,by omega,by omega,by omega,by omega⟩,y4e hn hrs l _ _ (by simp [noHL,noH]),?_⟩
  exact x5o hn hrs (by omega) hQ
 ·rw [if_neg h] at hQ
  have hp:(z4i (ltR rs) 0 20 l).Perm l:=z78 _ (by omega)
  have hl1:(z4i (ltR rs) 0 20 l).length = n:=by rw [hp.length_eq]; exact hl
  have hm1:=y0s hp hm
  refine z0b (decide_eq_true (by omega)) ?_
  refine ⟨⟨trivial,trivial,hn,⟨rs,l,rfl,rfl,hrs,rfl,hl,hm⟩,by omega,by omega,by omega,by omega⟩,y4e hn hrs l _ _ (by simp [noHL,noH]),?_⟩
  generalize z4i (ltR rs) 0 20 l = l1 at hl1 hm1 hQ
  refine z0n (C:=Tryz.X157) (z00 z7j (Cts.nil _)) (z1c z7j (Cts.nil _)) ?_
  rw [x7l,z5r,z5r,show IntKind.i64.wrap ((20:Int) + 20) = 40 from by decide]
  simp only [Int.toNat_natCast]
  rw [show (20:Int).toNat = 20 from rfl]
  have hp2:(z4i (ltR rs) 20 n l1).Perm l1:=z78 _ (by omega)
  refine z0p (decide_eq_false (by omega)) ?_
  refine ⟨⟨trivial,trivial,hn,⟨rs,l1,rfl,rfl,hrs,rfl,hl1,hm1⟩,by omega,by omega,by omega,by omega⟩,y4e hn hrs l1 _ _ (by simp [noHL,noH]),?_⟩
  exact st7 hn hrs (by rw [hp2.length_eq]; exact hl1) (y0s hp2 hm1) hQ
end
theorem ct157:CtP Tryz.B.c0 157 2 x0j where
 body:=⟨_,_,Tryz.func157,rfl⟩
 ok:=fun args hs D r hs' hR hD hl=>by
  unfold x0j at hR
  split at hR <;> cases hR
  rename_i n c k rl len rt cs ct
  obtain ⟨rfl,rfl,hn,⟨rs,l,rfl,rfl,hrs,rfl,hl',hm⟩,rfl⟩:=hD
  rw [y6m rs l,z5r]
  exact z4p (B:=Tryz.B157) (l:=[]) (lm:=x7x) (tp:=[1]) (ct:=[]) (sm:=[]) (nb:=2) z7j (Cts.nil _) rfl ((v157 n c n _ _ _).mpr (st2 hn hrs hl' hm ⟨rfl,rfl⟩))
theorem w1x:BaseOk (Tryz.B.hk 157 (z3c 2 x0j)):=Tryz.bok.hk (ct157.hook Tryz.gtpB)
theorem ct123:CtP Tryz.B.c0 123 2 x0k where
 body:=⟨_,_,Tryz.func123,rfl⟩
 ok:=fun args hs D r hs' hR hD hl=>by
  unfold x0k at hR
  split at hR <;> cases hR
  rename_i n c rl len rt cs ct
  obtain ⟨rfl,rfl,hn,⟨rs,l,rfl,rfl,hrs,rfl,hl',hm⟩⟩:=hD
  rw [y6m rs l,z5r]
  refine z4p (B:=Tryz.B.hk 157 (z3c 2 x0j)) (l:=[]) (lm:=[]) (tp:=[]) (ct:=[]) (sm:=[]) (nb:=2) w1x (Cts.nil _) rfl ((w60 n c _ _ _ _).mpr ?_)
  rw [z5r]
  refine ⟨⟨rfl,rfl,hn,⟨rs,l,rfl,rfl,hrs,rfl,hl',hm⟩,rfl⟩,y4e hn hrs l _ _ (by simp [noHL,noH]),z0b (y39 (z4k rs) _ []) ?_⟩
  rw [z1f,z2x]
  exact ⟨rfl,rfl⟩
theorem y6w:BaseOk (Tryz.B.hk 123 (z3c 2 x0k)):=Tryz.bok.hk (ct123.hook Tryz.gtpB)
theorem w0x {n x:Nat} (h:x < n):gN (List.range n) x = x:=by simp [gN,List.getD_eq_getElem?_getD,h]
theorem y2e (rs:List Rul):(z05 rs).Perm (List.range rs.length):=x3s _ (by simp)
theorem y0a (rs:List Rul):(z05 rs).length = rs.length:=by rw [(y2e rs).length_eq]; simp
theorem y46 (rs:List Rul):∀ x ∈ z05 rs,x < rs.length:=fun x hx=>List.mem_range.1 ((y2e rs).mem_iff.1 hx)
end Go.Proofs
set_option maxRecDepth 100000
set_option linter.unusedVariables false
namespace Go.Ev
theorem z2e (n:Nat):∀ k:Nat,noHL n (List.replicate k AV.bad) = true
 | 0=>rfl
 | k + 1=>by rw [List.replicate_succ,noHL,z2e n k]; rfl
theorem z6j {n:Nat} {l m:List AV} (h1:noHL n l = true) (h2:noHL n m = true):noHL n (l++m) = true:=by rw [z2f,h1,h2]; rfl
theorem y33 (l:List Nat) (k:Nat):List.drop k (Go.Proofs.encD l) = Go.Proofs.encD (l.drop k):=by simp [Go.Proofs.encD,List.map_drop]
theorem x9c (l:List Nat) (i:Nat):gN (l.drop i) 0 = gN l i:=by simp [gN,List.getD_eq_getElem?_getD,List.getElem?_drop]
theorem y1d {l:List Nat} {i:Nat} (h:i < l.length):cI (List.drop ((i:Int).toNat * 1) (Go.Proofs.encD l)) 0 = (gN l i:Int):=by
 rw [Int.toNat_natCast,Nat.mul_one,y33,z3u _ _ (by rw [List.length_drop]; omega),x9c]
theorem y1c {l:List Nat} {i:Nat} (h:i < l.length):z1g (AV.ofVal (Value.int IntKind.i64 (0:Int))) ((List.drop ((i:Int).toNat * 1) (Go.Proofs.encD l)).getD 0 AV.bad) = true:=by
 rw [Int.toNat_natCast,Nat.mul_one,y33]; exact z10 _ _ (by rw [List.length_drop]; omega)
theorem z86 {l:List Nat} {i:Nat} (h:i < l.length):decide (0 < (List.drop ((i:Int).toNat * 1) (Go.Proofs.encD l)).length) = true:=by
 rw [Int.toNat_natCast,Nat.mul_one,y33,z4v,List.length_drop]; exact decide_eq_true (by omega)
theorem x1x (n:Nat):z2o [I 0] n = Go.Proofs.encD (List.replicate n 0):=by
 simp [z2o,Go.Proofs.encD,Nat.mod_one,List.map_const',List.map_replicate]
theorem x3b {C:Cx} {hs:List (Option HB)} {h n c e:Nat} {l:List AV} (hg:hs[h]? = some (some (.cells l e))) (hsz:szT C e = some 1) (hl:n ≤ l.length) (hc:n ≤ c) (hn:noHL 0 (l.take n) = true):pub C hs 0 (.row h 0 n c) = some (.vs (l.take n) n .none):=by
 unfold pub
 rw [if_neg (by omega),hg]
 simp only []
 rw [hsz]
 simp only [Nat.mul_one,List.drop_zero,Nat.zero_add]
 rw [if_pos ⟨hl,hc,by omega⟩,if_pos hn]
end Go.Ev
namespace Go.Proofs
open Go Go.Ev
theorem y1q (x:Rul):z5k (z1d x) = z0m x.t:=by rw [y4q]; rfl
theorem x4i {rs:List Rul} (hrs:z1j rs) {Q:CR→Prop} (hQ:Q (.ret (.vs (encD (z05 rs)) rs.length .none))):∀ (d i:Nat) (l:List Nat),rs.length - i = d→i ≤ rs.length→l.length = rs.length→(∀ x,x < i→gN l x = x) →
  z0l Tryz.X79 (cd PP 79 [1,1,0,1,0,0]) ([X,.ptr 0 0,X,.row 1 0 rs.length rs.length,X,X,X,X,X,X,I rs.length,I i]++List.replicate 11 X) ⟨hsS rs l,[],[]⟩ (z0d 0 (z0i Tryz.X79 (cd PP 79 [1,1,1]) (z0f Tryz.X79 79 Q))):=by
 have hn:=hrs.2.1
 intro d
 induction d with
 | zero =>
  intro i l hd hi hl hid
  have he:l = List.range rs.length:=by
   apply List.ext_getElem? 
   intro x
   rcases Nat.lt_or_ge x rs.length with h | h
   ·have h1:=hid x (by omega)
    simp only [gN,List.getD_eq_getElem?_getD,List.getElem?_eq_getElem (show x < l.length by omega),Option.getD_some] at h1
    rw [List.getElem?_eq_getElem (show x < l.length by omega),List.getElem?_range h,h1]
   ·rw [List.getElem?_eq_none (by omega),List.getElem?_eq_none (by simpa using h)]
  refine z0n (C:=Tryz.X79) (z0y y6w (Cts.nil _)) (z1e y6w (Cts.nil _)) ?_
  rw [z3k,w0b,z5r]
  refine z0p (decide_eq_false (by omega)) ?_
  have hmem:∀ x ∈ l,x < rs.length:=fun x hx=>by rw [he] at hx; exact List.mem_range.1 hx
  refine ⟨⟨rfl,rfl,hn,⟨rs,l,rfl,rfl,hrs,rfl,hl,hmem⟩⟩,y4e hn hrs l _ _ (by simp [noHL,noH]),?_⟩
  have hst:z8l (ltR rs) rs.length l = z05 rs:=by rw [he]; rfl
  rw [hst]
  show z3b (pub Tryz.X79.pc (hsS rs (z05 rs)) 0 (.row 1 0 rs.length rs.length)) (fun r'=>Q (.ret (scrub 0 r')))
  refine y05 (v:=.vs (encD (z05 rs)) rs.length .none) ?_ ?_
  ·have hlen:(encD (z05 rs)).length = rs.length:=by rw [z4v,y0a]
   have:=x3b (C:=Tryz.X79.pc) (hs:=hsS rs (z05 rs)) (h:=1) (n:=rs.length) (c:=rs.length) (e:=3) (l:=encD (z05 rs)) rfl (by kernel_rfl) (by omega) (Nat.le_refl _) (by rw [List.take_of_length_le (by omega)]; exact z1t 0 _)
   rw [this,List.take_of_length_le (by omega)]
  ·show Q (.ret (.vs (z0e 0 (encD (z05 rs))) rs.length .none))
   rw [z2x]
   exact hQ
 | succ d ih =>
  intro i l hd hi hl hid
  refine z0n (C:=Tryz.X79) (z0y y6w (Cts.nil _)) (z1e y6w (Cts.nil _)) ?_
  rw [z3k,w0b,wA1 (a:=i) (by omega)]
  simp only [z9s]
  have h1:i < l.length:=by omega
  rw [z6n l _ _ h1]
  refine z0b (decide_eq_true (by omega)) (z0b (z0z _) (z0b (row_in (by omega)) (z0b (z7l h1) ?_)))
  refine ih (i + 1) (l.set i i) (by omega) (by omega) (by simpa using hl) (fun x hx=>?_)
  by_cases hxi:x = i
  ·subst hxi
   simp [gN,List.getD_eq_getElem?_getD,h1]
  ·have:=hid x (by omega)
   simpa [gN,List.getD_eq_getElem?_getD,List.getElem?_set_ne (Ne.symm hxi)] using this
theorem w79 {rs:List Rul} (hrs:z1j rs) {Q:CR→Prop} (hQ:Q (.ret (.vs (encD (z05 rs)) rs.length .none))):wpF Tryz.X79 79 [.agg [.vs (z0c rs) rs.length .none]] Q:=by
 have hn:=hrs.2.1
 rw [v79]
 refine z0b (decide_eq_true (by omega)) (z0b (decide_eq_true (by omega)) (z0b (decide_eq_true (by omega)) ?_))
 rw [show z2o (List.map AV.ofVal (Value.int IntKind.i64 (0:Int)).cells.toList) rs.length = encD (List.replicate rs.length 0) from x1x _]
 exact x4i hrs hQ rs.length 0 _ (by omega) (by omega) (by simp) (fun x hx=>by omega)
theorem x6r:Ct Tryz.B.c0 79 R79:=Ct.of_wp (B:=Tryz.B.hk 123 (z3c 2 x0k)) (l:=[]) (lm:=w1e) (tp:=[]) (ct:=[]) (sm:=[]) y6w (Cts.nil _) ⟨_,_,Tryz.func79,rfl⟩ fun args D r hR hD=>by
 unfold R79 at hR
 split at hR <;> cases hR
 obtain ⟨rs,rfl,rfl,hrs⟩:=hD
 refine ⟨by simp [noHL,noH,z0t],?_⟩
 rw [show z0e 0 [AV.agg [.vs (z0c rs) rs.length .none]] = [AV.agg [.vs (z0c rs) rs.length .none]] by simp [z0e,scrub,z1f,Tok.scrub],z0j z0u]
 exact w79 hrs rfl
theorem c78:Cts Tryz.B [(80,R80)]:=(Cts.nil _).cons x9w
abbrev hsV (rs:List Rul) (p q:Prf) (v w:Int):List (Option HB):=[some (.cells [.vs (z0c rs) rs.length .none] 25),some (.cells (z0a p) 40),some (.cells (z0a q) 40),some (.cells [U 0,I 0,I 0] 42),some (.cells [U 0,I v,I w] 42)]
section
variable {rs:List Rul} (hrs:z1j rs) (hsh:∀ x ∈ rs,shT x.t = true) {p q:Prf} {ord:List Nat} (hol:ord.length ≤ 24) (hom:∀ x ∈ ord,x < rs.length) {Q:CR→Prop}
theorem z6t (rs:List Rul) (p q:Prf) (v w:Int):(hsV rs p q v w).all (okBlk 5) = true:=by
 simp [okBlk,noHB,noHL,noH,z0t,z04]
theorem x8y (rs:List Rul) (p q:Prf) (v w:Int) (x:Rul):(hsV rs p q v w++[some (HB.cells (z1d x) 73)]).all (okBlk 6) = true:=by
 simp [okBlk,noHB,noHL,noH,z0t,z04,z7c]
theorem x1r (v w:Int) (hQ:Q (.ret (.agg [U (z01 v w),I v,I w]))) :
  z0k Tryz.X78 (cd PP 78 [1,1,1,1]) ([X,X,X,X,X,X,X,X,X,X,.ptr 3 0,.ptr 4 0]++List.replicate 83 X) ⟨hsV rs p q v w,[],[]⟩ (z0f Tryz.X78 78 Q):=by
 refine z3n (C:=Tryz.X78) (z0y Tryz.bok c78) (z1e Tryz.bok c78) ?_
 rw [w53]
 unfold z01 at hQ
 refine z0h (fun h=>z0h (fun h2=>?_) (fun h2=>z0b h ?_)) (fun h=>z0p h (z0h (fun h2=>?_) (fun h2=>?_)))
 ·rw [if_pos ⟨of_decide_eq_true h,of_decide_eq_true h2⟩] at hQ; exact hQ
 ·have h:=of_decide_eq_true h
  have h2:=of_decide_eq_false h2
  rw [if_neg (fun x=>h2 x.2),if_pos h] at hQ; exact hQ
 ·have h:=of_decide_eq_false h
  have h2:=of_decide_eq_true h2
  rw [if_neg (fun x=>h x.1),if_neg h,if_pos h2] at hQ; exact hQ
 ·have h:=of_decide_eq_false h
  have h2:=of_decide_eq_false h2
  rw [if_neg (fun x=>h x.1),if_neg h,if_neg h2] at hQ; exact hQ
include hrs hsh hol hom
theorem x6p:∀ (d i:Nat) (v w r:Int),ord.length - i = d→i ≤ ord.length →
  Q (.ret (.agg [U (z01 (z2g (rkR rs) (thR rs p q) (thR rs q p) (ord.drop i) v w r).1 (z2g (rkR rs) (thR rs p q) (thR rs q p) (ord.drop i) v w r).2),I (z2g (rkR rs) (thR rs p q) (thR rs q p) (ord.drop i) v w r).1,I (z2g (rkR rs) (thR rs p q) (thR rs q p) (ord.drop i) v w r).2])) →
  z0l Tryz.X78 (cd PP 78 [1,1,1,0,1,0,0]) ([X,X,X,X,.raw .nilFunc,.ptr 0 0,X,.ptr 1 0,.ptr 2 0,X,.ptr 3 0,.ptr 4 0,I r,X,X,X,X,X,X,.vs (encD ord) ord.length .none,I ord.length,I i]++List.replicate 73 X) ⟨hsV rs p q v w,[],[]⟩ (z0d 0 (z0i Tryz.X78 (cd PP 78 [1,1,1,1]) (z0f Tryz.X78 78 Q))):=by
 intro d
 induction d with
 | zero =>
  intro i v w r hd hi hQ
  have hi':i = ord.length:=by omega
  subst hi'
  rw [List.drop_length] at hQ
  refine z0n (C:=Tryz.X78) (z0y Tryz.bok c78) (z1e Tryz.bok c78) ?_
  rw [w0c]
  exact z0p (decide_eq_false (by omega)) (z0b (z6t rs p q v w) (x1r v w hQ))
 | succ d ih =>
  intro i v w r hd hi hQ
  have hlt:i < ord.length:=by omega
  obtain ⟨j,hj,hdr⟩:=z1p hlt
  rw [hdr] at hQ
  have hg:gN ord i = j:=by simp [gN,List.getD_eq_getElem?_getD,hj]
  have hjl:j < rs.length:=hom j (List.mem_of_getElem? hj)
  obtain ⟨x,hx⟩:∃ x,rs[j]? = some x:=⟨_,List.getElem?_eq_getElem hjl⟩
  have hxm:=List.mem_of_getElem? hx
  have hrk:rkR rs j = x.rank:=by simp only [rkR,hx]
  have hth:thR rs p q j = hoT x.t p q:=by simp only [thR,hx]
  have hbk:thR rs q p j = hoT x.t q p:=by simp only [thR,hx]
  have henv:∀ (a b c e f:AV) (k:AV),noHL 6 [a,b,c,e,f,k] = true→noHL 6 ([X,X,X,X,.raw .nilFunc,.ptr 0 0,X,.ptr 1 0,.ptr 2 0,X,.ptr 3 0,.ptr 4 0,a,X,b,c,e,f,X,.vs (encD ord) ord.length .none,I ord.length,k]++List.replicate 73 X) = true:=fun a b c e f k h=>by
   simp only [noHL,Bool.and_eq_true] at h
   refine z6j ?_ (z2e 6 73)
   simp [noHL,noH,z1t,h]
  have henv5:∀ (a b c e f:AV) (k:AV),noHL 5 [a,b,c,e,f,k] = true→noHL 5 ([X,X,X,X,.raw .nilFunc,.ptr 0 0,X,.ptr 1 0,.ptr 2 0,X,.ptr 3 0,.ptr 4 0,a,X,b,c,e,f,X,.vs (encD ord) ord.length .none,I ord.length,k]++List.replicate 73 X) = true:=fun a b c e f k h=>by
   simp only [noHL,Bool.and_eq_true] at h
   refine z6j ?_ (z2e 5 73)
   simp [noHL,noH,z1t,h]
  simp only [z2g] at hQ
  rw [hrk,hth,hbk] at hQ
  refine z0n (C:=Tryz.X78) (z0y Tryz.bok c78) (z1e Tryz.bok c78) ?_
  rw [w0c,y1d hlt,hg,Int.toNat_natCast j,z4u hx,y2s,y1q]
  refine z0b (decide_eq_true (by omega)) (z0b (z0z _) (z0b (row_in hlt) (z0b (decide_eq_true (by rw [z4v]; omega)) (z0b (z86 hlt) (z0b (y1c hlt) (z0b (z0z _) (z0b (decide_eq_true hjl) (z0b (decide_eq_true (z02 rs).symm) (z0b (decide_eq_true (z03 (z02 rs) hjl)) (z0b (z4s x) ?_))))))))))
  refine z0h (fun hb=>?_) (fun hb=>?_)
  ·have hb:r > x.rank:=of_decide_eq_true hb
   rw [if_pos hb] at hQ
   exact z0b (z6t rs p q v w) (x1r v w hQ)
  ·have hb:¬ r > x.rank:=of_decide_eq_false hb
   rw [if_neg hb] at hQ
   have hht:∀ a b:Prf,z0g z0m (fun t=>z0g z0a (fun a=>z0g z0a (fun b=>hoT t a b) false (z0a b)) false (z0a a)) false (z0m x.t) = hoT x.t a b:=fun a b=>by
    rw [z0j (fun _ _=>z1a _ _),z0j z0w,z0j z0w]
   rw [hht,hht]
   refine z0b (by simp [noHL,noH,z1k,z04]) ⟨⟨⟨x.t,rfl,(hrs.1.2 x hxm).1,hsh x hxm⟩,⟨p,rfl⟩,q,rfl⟩,rfl,z0b (by simp [noHL,noH,z1k,z04]) ⟨⟨⟨x.t,rfl,(hrs.1.2 x hxm).1,hsh x hxm⟩,⟨q,rfl⟩,p,rfl⟩,rfl,z0b (henv _ _ _ _ _ _ rfl) (z0b (x8y rs p q v w x) ?_)⟩⟩
   refine z3n (C:=Tryz.X78) (z0y Tryz.bok c78) (z1e Tryz.bok c78) ?_
   rw [w56,wA1 (a:=i) (by omega)]
   have cont:∀ v' w' r':Int,Q (.ret (.agg [U (z01 (z2g (rkR rs) (thR rs p q) (thR rs q p) (ord.drop (i + 1)) v' w' r').1 (z2g (rkR rs) (thR rs p q) (thR rs q p) (ord.drop (i + 1)) v' w' r').2),I (z2g (rkR rs) (thR rs p q) (thR rs q p) (ord.drop (i + 1)) v' w' r').1,I (z2g (rkR rs) (thR rs p q) (thR rs q p) (ord.drop (i + 1)) v' w' r').2]))→_:=fun v' w' r' h=>ih (i + 1) v' w' r' (by omega) (by omega) h
   have two:Q (.ret (.agg [U (z01 (z2g (rkR rs) (thR rs p q) (thR rs q p) (ord.drop (i + 1)) (if (hoT x.t p q && decide (v < 0)) = true then (j:Int) else v) (if (hoT x.t q p && decide (w < 0)) = true then (j:Int) else w) x.rank).1 (z2g (rkR rs) (thR rs p q) (thR rs q p) (ord.drop (i + 1)) (if (hoT x.t p q && decide (v < 0)) = true then (j:Int) else v) (if (hoT x.t q p && decide (w < 0)) = true then (j:Int) else w) x.rank).2),I (z2g (rkR rs) (thR rs p q) (thR rs q p) (ord.drop (i + 1)) (if (hoT x.t p q && decide (v < 0)) = true then (j:Int) else v) (if (hoT x.t q p && decide (w < 0)) = true then (j:Int) else w) x.rank).1,I (z2g (rkR rs) (thR rs p q) (thR rs q p) (ord.drop (i + 1)) (if (hoT x.t p q && decide (v < 0)) = true then (j:Int) else v) (if (hoT x.t q p && decide (w < 0)) = true then (j:Int) else w) x.rank).2])) →
     z0k Tryz.X78 (cd PP 78 [1,1,1,0,1,0,0,1,1,0,0,1,1,1,1,1,1,1]) ([X,X,X,X,.raw .nilFunc,.ptr 0 0,X,.ptr 1 0,.ptr 2 0,X,.ptr 3 0,.ptr 4 0,I x.rank,X,I j,X,Bo (hoT x.t p q),Bo (hoT x.t q p),X,.vs (encD ord) ord.length .none,I ord.length,I i]++List.replicate 73 X) ⟨hsV rs p q v w,[],[]⟩ (z0d 1 (z0i Tryz.X78 (cd PP 78 [1,1,1,0,1,0,0,1,1,1]) (z0r Tryz.X78 (cd PP 78 [1,1,1,0,1,0,0]) (z0d 0 (z0i Tryz.X78 (cd PP 78 [1,1,1,1]) (z0f Tryz.X78 78 Q)))))):=by
    intro h
    have step:∀ v':Int,v' = (if (hoT x.t p q && decide (v < 0)) = true then (j:Int) else v) →
      z0k Tryz.X78 (cd PP 78 [1,1,1,0,1,0,0,1,1,0,0,1,1,1,1,1,1,1,1]) ([X,X,X,X,.raw .nilFunc,.ptr 0 0,X,.ptr 1 0,.ptr 2 0,X,.ptr 3 0,.ptr 4 0,I x.rank,X,I j,X,X,Bo (hoT x.t q p),X,.vs (encD ord) ord.length .none,I ord.length,I i]++List.replicate 73 X) ⟨hsV rs p q v' w,[],[]⟩ (z0d 1 (z0i Tryz.X78 (cd PP 78 [1,1,1,0,1,0,0,1,1,1]) (z0r Tryz.X78 (cd PP 78 [1,1,1,0,1,0,0]) (z0d 0 (z0i Tryz.X78 (cd PP 78 [1,1,1,1]) (z0f Tryz.X78 78 Q)))))):=by
     intro v' hv'
     rw [← hv'] at h
     refine z3n (C:=Tryz.X78) (z0y Tryz.bok c78) (z1e Tryz.bok c78) ?_
     rw [w54,wA1 (a:=i) (by omega)]
     refine z0h (fun h1=>z0h (fun h2=>?_) (fun h2=>?_)) (fun h1=>?_)
     ·rw [if_pos (by rw [h1,h2]; rfl)] at h
      exact z0b (henv5 _ _ _ _ _ _ rfl) (z0b (z6t rs p q v' j) (cont _ _ _ h))
     ·rw [if_neg (by rw [h1,h2]; simp)] at h
      exact z0b (henv5 _ _ _ _ _ _ rfl) (z0b (z6t rs p q v' w) (cont _ _ _ h))
     ·rw [if_neg (by rw [h1]; simp)] at h
      exact z0b (henv5 _ _ _ _ _ _ rfl) (z0b (z6t rs p q v' w) (cont _ _ _ h))
    refine z3n (C:=Tryz.X78) (z0y Tryz.bok c78) (z1e Tryz.bok c78) ?_
    rw [w55]
    refine z0h (fun h1=>z0h (fun h2=>?_) (fun h2=>?_)) (fun h1=>?_)
    ·exact z0b (henv5 _ _ _ _ _ _ rfl) (z0b (z6t rs p q j w) (step j (by rw [if_pos (by rw [h1,h2]; rfl)])))
    ·exact z0b (henv5 _ _ _ _ _ _ rfl) (z0b (z6t rs p q v w) (step v (by rw [if_neg (by rw [h1,h2]; simp)])))
    ·exact z0b (henv5 _ _ _ _ _ _ rfl) (z0b (z6t rs p q v w) (step v (by rw [if_neg (by rw [h1]; simp)])))
   refine z0h (fun h1=>z0h (fun h2=>?_) (fun h2=>?_)) (fun h1=>?_)
   ·rw [if_pos (by rw [h1,h2]; rfl)] at hQ
    exact z0b (henv5 _ _ _ _ _ _ rfl) (z0b (z6t rs p q v w) (cont _ _ _ hQ))
   ·rw [if_neg (by rw [h1,h2]; simp)] at hQ
    exact z0b (henv5 _ _ _ _ _ _ rfl) (z0b (z6t rs p q v w) (two hQ))
   ·rw [if_neg (by rw [h1]; simp)] at hQ
    exact z0b (henv5 _ _ _ _ _ _ rfl) (z0b (z6t rs p q v w) (two hQ))
end
theorem x9x:Ct Tryz.B.c0 78 R78:=Ct.of_wp (lm:=x42) (tp:=[]) (ct:=[9,13,15,18]) (sm:=[(4,5),(9,6),(13,5),(15,5),(18,5)]) Tryz.bok c78 ⟨_,_,Tryz.func78,rfl⟩ fun args D r hR hD=>by
 unfold R78 at hR
 split at hR <;> cases hR
 obtain ⟨⟨rs,ord,rfl,rfl,hrs,hsh,rfl,rfl,hol,hom⟩,⟨p,rfl⟩,q,rfl⟩:=hD
 refine ⟨by simp [noHL,noH,z0t,z04,z1t],?_⟩
 rw [show z0e 0 [AV.agg [.vs (z0c rs) rs.length .none],.vs (encD ord) ord.length .none,.agg (z0a p),.agg (z0a q),.raw .nilFunc] = [AV.agg [.vs (z0c rs) rs.length .none],.vs (encD ord) ord.length .none,.agg (z0a p),.agg (z0a q),.raw .nilFunc] by simp [z0e,scrub,z1f,Tok.scrub,z2x,z2u]]
 have he:dvP (z0c rs) (encD ord) (z0a p) (z0a q) = z2g (rkR rs) (thR rs p q) (thR rs q p) ord (-1) (-1) 0:=by
  unfold dvP on3
  rw [z0j z0u,z0j z0w,z0j z0w]
  dsimp only
  rw [z0j z2n]
 rw [he]
 refine (v78 _ _ _ _ p q _).mpr (z0b ?_ (z0b (z6t rs p q (-1) (-1)) (x6p hrs hsh hol hom ord.length 0 (-1) (-1) 0 (by omega) (by omega) rfl)))
 refine z6j ?_ (z2e 5 73)
 simp [noHL,noH,z1t]
theorem x1v:∀ (l prev:List Rul),z5j prev l = 0→∀ x ∈ l,z2h x = true∧z4h x.t = true∧shT x.t = true∧z1s x.name = true
 | [],prev,h,x,hx=>by simp at hx
 | y :: l,prev,h,x,hx=>by
  simp only [z5j] at h
  by_cases h1:z1s y.name = false
  ·rw [if_pos h1] at h; cases h
  ·rw [if_neg h1] at h
   by_cases h2:(prev.any fun z=>z.name == y.name) = true
   ·rw [if_pos h2] at h; cases h
   ·rw [if_neg h2] at h
    by_cases h3:z2h y = false
    ·rw [if_pos h3] at h; cases h
    ·rw [if_neg h3] at h
     by_cases h4:z4h y.t = false
     ·rw [if_pos h4] at h; cases h
     ·rw [if_neg h4] at h
      by_cases h5:shT y.t = false
      ·rw [if_pos h5] at h; cases h
      ·rw [if_neg h5] at h
       rcases List.mem_cons.1 hx with rfl | hx
       ·exact ⟨by simpa using h3,by simpa using h4,by simpa using h5,by simpa using h1⟩
       ·exact x1v l _ h x hx
theorem z8x {rs:List Rul} (hw:z1h rs) (h:chk rs = 0):z1j rs∧(∀ x ∈ rs,shT x.t = true)∧∀ x ∈ rs,z4h x.t = true∧z2h x = true∧z1s x.name = true:=by
 unfold chk at h
 by_cases h1:rs.length > 24
 ·rw [if_pos h1] at h; cases h
 ·rw [if_neg h1] at h
  have h2:=x1v rs [] h
  refine ⟨⟨hw,by omega,fun x hx=>?_⟩,fun x hx=>(h2 x hx).2.2.1,fun x hx=>⟨(h2 x hx).2.1,(h2 x hx).1,(h2 x hx).2.2.2⟩⟩
  have:=(h2 x hx).1
  simp only [z2h,Bool.and_eq_true,decide_eq_true_eq] at this
  exact this.1
theorem y2y {rs:List Rul} {p q:Prf} (h:z1v rs p q = 0):chk rs = 0:=by
 unfold z1v at h
 by_cases h1:chk rs = 0
 ·exact h1
 ·rw [if_neg h1] at h; exact h
theorem x9z:Ct Tryz.B.c0 28 R28:=Ct.of_wp (B:=Tryz.B) (g:=28) (R:=R28) (l:=[(77,R77),(78,R78),(79,R79)]) (lm:=[]) (tp:=[]) (ct:=[]) (sm:=[]) Tryz.bok ((((Cts.nil _).cons x6r).cons x9x).cons w2k) ⟨_,_,Tryz.func28,rfl⟩ fun args D r hR hD=>by
 unfold R28 at hR
 split at hR <;> cases hR
 obtain ⟨⟨rs,rfl,rfl,hw⟩,⟨p,rfl⟩,q,rfl⟩:=hD
 refine ⟨by simp [noHL,noH,z0t,z04],?_⟩
 rw [show z0e 0 [AV.agg [.vs (z0c rs) rs.length .none],.agg (z0a p),.agg (z0a q)] = [AV.agg [.vs (z0c rs) rs.length .none],.agg (z0a p),.agg (z0a q)] by simp [z0e,scrub,z1f,Tok.scrub,z2u]]
 have he:dvD (z0c rs) (z0a p) (z0a q) = z1x rs p q:=by
  unfold dvD on3
  rw [z0j z0u,z0j z0w,z0j z0w]
 rw [he]
 refine (v28 _ _ p q _).mpr ⟨⟨⟨rs,rfl,rfl,hw⟩,⟨p,rfl⟩,q,rfl⟩,?_⟩
 rw [z0j z0u,z0j z0w,z0j z0w]
 unfold z1x
 refine z0h (fun h=>?_) (fun h=>?_)
 ·have h:¬ z1v rs p q = 0:=by simpa using h
  rw [if_neg h]
 ·have h:z1v rs p q = 0:=by simpa using h
  rw [if_pos h]
  obtain ⟨h1,h2,_⟩:=z8x hw (y2y h)
  rw [z0j z0u]
  have hd:dvP (z0c rs) (encD (z05 rs)) (z0a p) (z0a q) = z2c rs p q:=by
   unfold dvP on3
   rw [z0j z0u,z0j z0w,z0j z0w]
   dsimp only
   rw [z0j z2n]
   rfl
  rw [hd]
  refine z0b (by simp [noHL,noH,z0t]) ⟨⟨rs,rfl,rfl,h1⟩,rfl,z0b (by simp [noHL,noH,z0t,z1t,z04]) ⟨⟨⟨rs,z05 rs,rfl,rfl,h1,h2,rfl,(y0a rs).symm,by rw [y0a]; exact h1.2.1,y46 rs⟩,⟨p,rfl⟩,q,rfl⟩,rfl,rfl⟩⟩
end Go.Proofs
