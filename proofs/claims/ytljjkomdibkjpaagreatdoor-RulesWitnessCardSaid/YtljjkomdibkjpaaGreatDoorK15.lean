/- Contracts of functions of the program and of the reference. -/
import Derived.Test.YtljjkomdibkjpaaGreatDoorK14
set_option linter.unusedVariables false
set_option linter.unusedSimpArgs false
set_option maxRecDepth 100000
set_option linter.unusedVariables false
-- elP
namespace Go.Proofs
open Go Go.Ev
def z1r (p q:Prf) (a b:Int):List AV:=[I p.cl,I p.vi,Bo p.ho,Bo p.de,Bo p.mo,I p.cr,I p.le,I q.cl,I q.vi,Bo q.ho,Bo q.de,Bo q.mo,I q.cr,I q.le,I a,I b]
def R85:Spc:=fun args=>match args with
 | []=>some (True,.ret (.fn (.func 127) [] []))
 | _=>none
structure Wit where
 p:Prf
 q:Prf
 a:Int
 b:Int
 f:Bool
 e:Int
def zWit:Wit:=⟨zPr,zPr,0,0,false,0⟩
def Wit.ret (w:Wit):CR:=.ret (.tup [.agg (z1r w.p w.q w.a w.b),Bo w.f,I w.e])
def y3y (x:Option (Prf × Prf)) (a b:Prf × Prf→Int):Wit:=match x with
 | some x=>⟨x.1,x.2,a x,b x,true,0⟩
 | none=>zWit
def y8k (e:Int):Wit:=⟨zPr,zPr,0,0,false,e⟩
def y26 (rs:List Rul) (x:Prf × Prf):Bool:=z01 (z2c rs x.1 x.2).1 (z2c rs x.1 x.2).2 == 3
def z3v (rs:List Rul):Wit:=if chk rs = 0 then y3y (csL.find? (y26 rs)) (fun x=>(z2c rs x.1 x.2).1) (fun x=>(z2c rs x.1 x.2).2) else y8k (chk rs)
noncomputable def R41:Spc:=fun args=>match args with
 | [.agg [.vs l len .none]]=>some (∃ rs,l = z0c rs∧len = rs.length∧z1h rs,(z0g z0c z3v zWit l).ret)
 | _=>none
noncomputable def Tryz.X85:WCx:=Tryz.B.wcx []
noncomputable def Tryz.X41:WCx:=Tryz.B.wcx [(27,R27),(79,R79),(85,R85)]
noncomputable def Tryz.X41r:WCx:=Tryz.B.wcxP 5 [(78,R78)]
theorem v85 (Q:CR→Prop):wpF Tryz.X85 85 [] Q =
 (Q (CR.ret (AV.fn (Fn.func 127) [] []))):=by kernel_rfl
theorem v7d (l:List AV) (len:Nat) (k:Kont):wpC Tryz.X41 (cd PP 41 [0]) ([.agg [.vs l len .none]]++List.replicate 36 X) ⟨[],[],[]⟩ k =
 (k EX.normal ([AV.agg [AV.vs l len Tok.none],AV.ptr 0 0,AV.ptr 1 0,AV.ptr 2 0,AV.ptr 3 0]++List.replicate 32 X) (St.mk [some (HB.cells [AV.vs l len Tok.none] 25),some (HB.cells [I 0,I 0,Bo false,Bo false,Bo false,I 0,I 0,I 0,I 0,Bo false,Bo false,Bo false,I 0,I 0,I 0,I 0] 61),some (HB.cells [Bo false] 4),some (HB.cells [I 0] 26)] [] [])):=by kernel_rfl
theorem v7c (l:List AV) (len:Nat) (k:Kont):wpC Tryz.X41 (cd PP 41 [1,0]) ([X,.ptr 0 0,.ptr 1 0,.ptr 2 0,.ptr 3 0]++List.replicate 32 X) ⟨[some (.cells [.vs l len .none] 25),some (.cells (z1r zPr zPr 0 0) 61),some (.cells [Bo false] 4),some (.cells [I 0] 26)],[],[]⟩ k =
 ((∃ (rs:List Rul),l = z0c rs∧len = rs.length∧z1h rs)∧cIf (z0g z0c chk (0:Int) l != (0:Int)) (k EX.ret ([X,AV.ptr 0 0,AV.ptr 1 0,AV.ptr 2 0,AV.ptr 3 0,I (z0g z0c chk (0:Int) l),X,X,X,X,AV.agg [AV.vs l len Tok.none],I (z0g z0c chk (0:Int) l),I (z0g z0c chk (0:Int) l),Bo (z0g z0c chk (0:Int) l != (0:Int)),AV.agg [I 0,I 0,Bo false,Bo false,Bo false,I 0,I 0,I 0,I 0,Bo false,Bo false,Bo false,I 0,I 0,I 0,I 0],I (z0g z0c chk (0:Int) l)]++List.replicate 21 X) (St.mk [some (HB.cells [AV.vs l len Tok.none] 25),some (HB.cells [I 0,I 0,Bo false,Bo false,Bo false,I 0,I 0,I 0,I 0,Bo false,Bo false,Bo false,I 0,I 0,I 0,I 0] 61),some (HB.cells [Bo false] 4),some (HB.cells [I (z0g z0c chk (0:Int) l)] 26)] [] [3,2,1])) (k EX.normal ([X,AV.ptr 0 0,AV.ptr 1 0,AV.ptr 2 0,AV.ptr 3 0,I (z0g z0c chk (0:Int) l),X,X,X,X,AV.agg [AV.vs l len Tok.none],I (z0g z0c chk (0:Int) l),I (z0g z0c chk (0:Int) l),Bo (z0g z0c chk (0:Int) l != (0:Int))]++List.replicate 23 X) (St.mk [some (HB.cells [AV.vs l len Tok.none] 25),some (HB.cells [I 0,I 0,Bo false,Bo false,Bo false,I 0,I 0,I 0,I 0,Bo false,Bo false,Bo false,I 0,I 0,I 0,I 0] 61),some (HB.cells [Bo false] 4),some (HB.cells [I 0] 26)] [] []))):=by kernel_rfl
theorem v7b (l:List AV) (len:Nat) (k:Kont):wpC Tryz.X41 (cd PP 41 [1,1,0]) ([X,.ptr 0 0,.ptr 1 0,.ptr 2 0,.ptr 3 0]++List.replicate 32 X) ⟨[some (.cells [.vs l len .none] 25),some (.cells (z1r zPr zPr 0 0) 61),some (.cells [Bo false] 4),some (.cells [I 0] 26)],[],[]⟩ k =
 ((∃ (rs:List Rul),l = z0c rs∧len = rs.length∧z1j rs)∧k EX.normal ([X,AV.ptr 0 0,AV.ptr 1 0,AV.ptr 2 0,AV.ptr 3 0,X,AV.ptr 4 0,X,X,X,X,X,X,X,X,X,AV.agg [AV.vs l len Tok.none],AV.vs (encD (z0g z0c z05 [] l)) len Tok.none]++List.replicate 19 X) (St.mk [some (HB.cells [AV.vs l len Tok.none] 25),some (HB.cells [I 0,I 0,Bo false,Bo false,Bo false,I 0,I 0,I 0,I 0,Bo false,Bo false,Bo false,I 0,I 0,I 0,I 0] 61),some (HB.cells [Bo false] 4),some (HB.cells [I 0] 26),some (HB.cells [AV.vs (encD (z0g z0c z05 [] l)) len Tok.none] 49)] [] [4])):=by kernel_rfl
theorem v7a (l cs:List AV) (len n:Nat) (k:Kont):wpC Tryz.X41 (cd PP 41 [1,1,1,0,0]) ([X,.ptr 0 0,.ptr 1 0,.ptr 2 0,.ptr 3 0,X,.ptr 4 0]++List.replicate 30 X) ⟨[some (.cells [.vs l len .none] 25),some (.cells (z1r zPr zPr 0 0) 61),some (.cells [Bo false] 4),some (.cells [I 0] 26),some (.cells [.vs cs n .none] 49)],[],[]⟩ k =
 (True∧k EX.normal ([X,AV.ptr 0 0,AV.ptr 1 0,AV.ptr 2 0,AV.ptr 3 0,X,AV.ptr 4 0,X,X,X,X,X,X,X,X,X,X,X,AV.fn (Fn.func 127) [] []]++List.replicate 18 X) (St.mk [some (HB.cells [AV.vs l len Tok.none] 25),some (HB.cells [I 0,I 0,Bo false,Bo false,Bo false,I 0,I 0,I 0,I 0,Bo false,Bo false,Bo false,I 0,I 0,I 0,I 0] 61),some (HB.cells [Bo false] 4),some (HB.cells [I 0] 26),some (HB.cells [AV.vs cs n Tok.none] 49)] [] [])):=by kernel_rfl
theorem v6y (l cs:List AV) (len n:Nat) (p q:Prf) (k:Kont):wpC Tryz.X41r (cd PP 41 [1,1,1,0,1,0,0]) ([X,.ptr 0 0,.ptr 1 0,.ptr 2 0,.ptr 3 0,X,.ptr 4 0,X,X,X,X,X,X,X,X,X,X,X,.fn (.func 127) [] [],.agg (z0a p),.agg (z0a q)]++List.replicate 16 X) ⟨[some (.cells [.vs l len .none] 25),some (.cells (z1r zPr zPr 0 0) 61),some (.cells [Bo false] 4),some (.cells [I 0] 26),some (.cells [.vs cs n .none] 49)],[],[]⟩ k =
 (k EX.normal ([X,AV.ptr 0 0,AV.ptr 1 0,AV.ptr 2 0,AV.ptr 3 0,X,AV.ptr 4 0,AV.ptr 5 0,AV.ptr 6 0,X,X,X,X,X,X,X,X,X,AV.fn (Fn.func 127) [] [],AV.agg (z0a p),AV.agg (z0a q)]++List.replicate 16 X) (St.mk [some (HB.cells [AV.vs l len Tok.none] 25),some (HB.cells [I 0,I 0,Bo false,Bo false,Bo false,I 0,I 0,I 0,I 0,Bo false,Bo false,Bo false,I 0,I 0,I 0,I 0] 61),some (HB.cells [Bo false] 4),some (HB.cells [I 0] 26),some (HB.cells [AV.vs cs n Tok.none] 49),some (HB.cells (z0a p) 40),some (HB.cells (z0a q) 40)] [] [6,5])):=by kernel_rfl
theorem v6x (l cs:List AV) (len n:Nat) (p q:Prf) (k:Kont):wpC Tryz.X41r (cd PP 41 [1,1,1,0,1,0,1]) ([X,.ptr 0 0,.ptr 1 0,.ptr 2 0,.ptr 3 0,X,.ptr 4 0,.ptr 5 0,.ptr 6 0,X,X,X,X,X,X,X,X,X,.fn (.func 127) [] [],.agg (z0a p),.agg (z0a q)]++List.replicate 16 X) ⟨[some (.cells [.vs l len .none] 25),some (.cells (z1r zPr zPr 0 0) 61),some (.cells [Bo false] 4),some (.cells [I 0] 26),some (.cells [.vs cs n .none] 49),some (.cells (z0a p) 40),some (.cells (z0a q) 40)],[],[6,5]⟩ k =
 (((∃ (rs:List Rul),∃ (ord:List Nat),l = z0c rs∧len = rs.length∧z1j rs∧(∀ (x:Rul),x ∈ rs→shT x.t = true)∧cs = encD ord∧n = ord.length∧ord.length ≤ 24∧∀ (x:Nat),x ∈ ord→x < rs.length)∧(∃ (p_1:Prf),(z0a p) = z0a p_1)∧∃ (q_1:Prf),(z0a q) = z0a q_1)∧cIf (z01 (dvP l cs (z0a p) (z0a q)).fst (dvP l cs (z0a p) (z0a q)).snd == (3:Int)) (k EX.ret [X,AV.ptr 0 0,AV.ptr 1 0,AV.ptr 2 0,AV.ptr 3 0,X,AV.ptr 4 0,AV.ptr 5 0,AV.ptr 6 0,AV.ptr 7 0,X,X,X,X,X,X,X,X,AV.fn (Fn.func 127) [] [],AV.agg (z0a p),AV.agg (z0a q),AV.agg [AV.vs l len Tok.none],AV.vs cs n Tok.none,AV.agg (z0a p),AV.agg (z0a q),AV.agg [AV.int IntKind.u8 (z01 (dvP l cs (z0a p) (z0a q)).fst (dvP l cs (z0a p) (z0a q)).snd),AV.int IntKind.i64 (dvP l cs (z0a p) (z0a q)).fst,AV.int IntKind.i64 (dvP l cs (z0a p) (z0a q)).snd],AV.ptr 7 0,AV.int IntKind.u8 (z01 (dvP l cs (z0a p) (z0a q)).fst (dvP l cs (z0a p) (z0a q)).snd),AV.bool (z01 (dvP l cs (z0a p) (z0a q)).fst (dvP l cs (z0a p) (z0a q)).snd == (3:Int)),AV.agg (z0a p),AV.agg (z0a q),AV.ptr 7 1,AV.int IntKind.i64 (dvP l cs (z0a p) (z0a q)).fst,AV.ptr 7 2,AV.int IntKind.i64 (dvP l cs (z0a p) (z0a q)).snd,AV.agg [I p.cl,I p.vi,Bo p.ho,Bo p.de,Bo p.mo,I p.cr,I p.le,I q.cl,I q.vi,Bo q.ho,Bo q.de,Bo q.mo,I q.cr,I q.le,AV.int IntKind.i64 (dvP l cs (z0a p) (z0a q)).fst,AV.int IntKind.i64 (dvP l cs (z0a p) (z0a q)).snd],X] (St.mk [some (HB.cells [AV.vs l len Tok.none] 25),some (HB.cells [I p.cl,I p.vi,Bo p.ho,Bo p.de,Bo p.mo,I p.cr,I p.le,I q.cl,I q.vi,Bo q.ho,Bo q.de,Bo q.mo,I q.cr,I q.le,AV.int IntKind.i64 (dvP l cs (z0a p) (z0a q)).fst,AV.int IntKind.i64 (dvP l cs (z0a p) (z0a q)).snd] 61),some (HB.cells [Bo true] 4),some (HB.cells [I 0] 26),some (HB.cells [AV.vs cs n Tok.none] 49),some (HB.cells (z0a p) 40),some (HB.cells (z0a q) 40),some (HB.cells [AV.int IntKind.u8 (z01 (dvP l cs (z0a p) (z0a q)).fst (dvP l cs (z0a p) (z0a q)).snd),AV.int IntKind.i64 (dvP l cs (z0a p) (z0a q)).fst,AV.int IntKind.i64 (dvP l cs (z0a p) (z0a q)).snd] 42)] [] [3,2,1,7,6,5])) (k EX.normal ([X,AV.ptr 0 0,AV.ptr 1 0,AV.ptr 2 0,AV.ptr 3 0,X,AV.ptr 4 0,AV.ptr 5 0,AV.ptr 6 0,AV.ptr 7 0,X,X,X,X,X,X,X,X,AV.fn (Fn.func 127) [] [],AV.agg (z0a p),AV.agg (z0a q),AV.agg [AV.vs l len Tok.none],AV.vs cs n Tok.none,AV.agg (z0a p),AV.agg (z0a q),AV.agg [AV.int IntKind.u8 (z01 (dvP l cs (z0a p) (z0a q)).fst (dvP l cs (z0a p) (z0a q)).snd),AV.int IntKind.i64 (dvP l cs (z0a p) (z0a q)).fst,AV.int IntKind.i64 (dvP l cs (z0a p) (z0a q)).snd],AV.ptr 7 0,AV.int IntKind.u8 (z01 (dvP l cs (z0a p) (z0a q)).fst (dvP l cs (z0a p) (z0a q)).snd),AV.bool (z01 (dvP l cs (z0a p) (z0a q)).fst (dvP l cs (z0a p) (z0a q)).snd == (3:Int))]++List.replicate 8 X) (St.mk [some (HB.cells [AV.vs l len Tok.none] 25),some (HB.cells [I 0,I 0,Bo false,Bo false,Bo false,I 0,I 0,I 0,I 0,Bo false,Bo false,Bo false,I 0,I 0,I 0,I 0] 61),some (HB.cells [Bo false] 4),some (HB.cells [I 0] 26),some (HB.cells [AV.vs cs n Tok.none] 49),some (HB.cells (z0a p) 40),some (HB.cells (z0a q) 40),some (HB.cells [AV.int IntKind.u8 (z01 (dvP l cs (z0a p) (z0a q)).fst (dvP l cs (z0a p) (z0a q)).snd),AV.int IntKind.i64 (dvP l cs (z0a p) (z0a q)).fst,AV.int IntKind.i64 (dvP l cs (z0a p) (z0a q)).snd] 42)] [] [7,6,5]))):=by kernel_rfl
theorem v6w (l cs:List AV) (len n:Nat) (k:Kont):wpC Tryz.X41 (cd PP 41 [1,1,1,1,0]) ([X,.ptr 0 0,.ptr 1 0,.ptr 2 0,.ptr 3 0,X,.ptr 4 0,X,X,X,X,X,X,X,X,X,X,X,.fn (.func 127) [] []]++List.replicate 18 X) ⟨[some (.cells [.vs l len .none] 25),some (.cells (z1r zPr zPr 0 0) 61),some (.cells [Bo false] 4),some (.cells [I 0] 26),some (.cells [.vs cs n .none] 49)],[],[]⟩ k =
 (k EX.normal [X,AV.ptr 0 0,AV.ptr 1 0,AV.ptr 2 0,AV.ptr 3 0,X,AV.ptr 4 0,X,X,X,X,X,X,X,X,X,X,X,AV.fn (Fn.func 127) [] [],X,X,X,X,X,X,X,X,X,X,X,X,X,X,X,X,X,AV.agg [I 0,I 0,Bo false,Bo false,Bo false,I 0,I 0,I 0,I 0,Bo false,Bo false,Bo false,I 0,I 0,I 0,I 0]] (St.mk [some (HB.cells [AV.vs l len Tok.none] 25),some (HB.cells [I 0,I 0,Bo false,Bo false,Bo false,I 0,I 0,I 0,I 0,Bo false,Bo false,Bo false,I 0,I 0,I 0,I 0] 61),some (HB.cells [Bo false] 4),some (HB.cells [I 0] 26),some (HB.cells [AV.vs cs n Tok.none] 49)] [] [3,2,1])):=by kernel_rfl
theorem v4l (l cs:List AV) (len n:Nat) (p q:Prf) (a b e:Int) (f:Bool) (u:AV) (ws:List Nat) (Q:CR→Prop):wpC Tryz.X41 (cd PP 41 [1,1,1,1,1]) ([X,.ptr 0 0,.ptr 1 0,.ptr 2 0,.ptr 3 0,X,.ptr 4 0,X,X,X,X,X,X,X,X,X,X,X,.fn (.func 127) [] []]++List.replicate 17 X++[u]) ⟨[some (.cells [.vs l len .none] 25),some (.cells (z1r p q a b) 61),some (.cells [Bo f] 4),some (.cells [I e] 26),some (.cells [.vs cs n .none] 49)],[],ws⟩ (z0f Tryz.X41 41 Q) =
 (Q (CR.ret (AV.tup [AV.agg [I p.cl,I p.vi,Bo p.ho,Bo p.de,Bo p.mo,I p.cr,I p.le,I q.cl,I q.vi,Bo q.ho,Bo q.de,Bo q.mo,I q.cr,I q.le,I a,I b],Bo f,I e]))):=by kernel_rfl
theorem v6z (l:List AV) (len:Nat) (e:Int) (b:Bool) (ws:List Nat) (Q:CR→Prop):wpC Tryz.X41 (cd PP 41 [1,1,1,1,1]) ([X,.ptr 0 0,.ptr 1 0,.ptr 2 0,.ptr 3 0,I e,X,X,X,X,.agg [.vs l len .none],I e,I e,Bo b,.agg (z1r zPr zPr 0 0),I e]++List.replicate 21 X) ⟨[some (.cells [.vs l len .none] 25),some (.cells (z1r zPr zPr 0 0) 61),some (.cells [Bo false] 4),some (.cells [I e] 26)],[],ws⟩ (z0f Tryz.X41 41 Q) =
 (Q (CR.ret (AV.tup [AV.agg [I 0,I 0,Bo false,Bo false,Bo false,I 0,I 0,I 0,I 0,Bo false,Bo false,Bo false,I 0,I 0,I 0,I 0],Bo false,I e]))):=by kernel_rfl
end Go.Proofs
set_option maxRecDepth 100000
set_option linter.unusedVariables false
namespace Go.Proofs
open Go Go.Ev
theorem w9:cd PP 41 [1,1,1,0,1,0] = .rangeFunc (.tmp 18) #[19,20] (cd PP 41 [1,1,1,0,1,0,0]) (cd PP 41 [1,1,1,0,1,0,1]):=by kernel_rfl
theorem w9o:cd PP 41 [1,1,1,0,1] = .block 0 (cd PP 41 [1,1,1,0,1,0]):=by kernel_rfl
theorem v0v:cd PP 41 [1,1,1,0] = .seq (cd PP 41 [1,1,1,0,0]) (cd PP 41 [1,1,1,0,1]):=by kernel_rfl
theorem w5e:cd PP 41 [1,1,1,1,0] = .region 11 (opsOf (cd PP 41 [1,1,1,1,0])) false:=by kernel_rfl
theorem x7s:cd PP 41 [1,1,1,1,1] = .ret:=by kernel_rfl
theorem v0u:cd PP 41 [1,1,1,1] = .seq (cd PP 41 [1,1,1,1,0]) (cd PP 41 [1,1,1,1,1]):=by kernel_rfl
theorem v1v:cd PP 41 [1,1,1] = .seq (cd PP 41 [1,1,1,0]) (cd PP 41 [1,1,1,1]):=by kernel_rfl
theorem v4t:cd PP 41 [1,1] = .seq (cd PP 41 [1,1,0]) (cd PP 41 [1,1,1]):=by kernel_rfl
theorem v6n:cd PP 41 [1] = .seq (cd PP 41 [1,0]) (cd PP 41 [1,1]):=by kernel_rfl
theorem v7j:cd PP 41 [] = .seq (cd PP 41 [0]) (cd PP 41 [1]):=by kernel_rfl
theorem w1r:Ct Tryz.B.c0 85 R85:=Ct.of_wp (l:=[]) (lm:=[]) (tp:=[]) (ct:=[]) (sm:=[]) Tryz.bok (Cts.nil _) ⟨_,_,Tryz.func85,rfl⟩ fun args D r hR hD=>by
 unfold R85 at hR
 split at hR <;> cases hR
 refine ⟨rfl,?_⟩
 show wpF Tryz.X85 85 [] _
 rw [v85]
theorem y66 {C:WCx} {c:Code} (hc:c = .ret) {env:Env} {S:St} {k:Kont} (h:wpC C c env S k):k .ret env S:=by subst hc; exact h
section
attribute [local irreducible] wpC wpF
def y6y (rs:List Rul) (p q:Prf) (a b:Int) (f:Bool):List (Option HB):=[some (.cells [.vs (z0c rs) rs.length .none] 25),some (.cells (z1r p q a b) 61),some (.cells [Bo f] 4),some (.cells [I 0] 26),some (.cells [.vs (encD (z05 rs)) rs.length .none] 49)]
theorem y1b (rs:List Rul) (p q:Prf) (a b:Int) (f:Bool):HsOk 5 (y6y rs p q a b f) where
 len:=rfl
 ok:=by simp [y6y,z1i,noHB,noHL,noH,z0t,z1t,z1r]
 st:=by simp [y6y,z06,z0e,scrub,Tok.scrub,z1f,z2x,z1r]
theorem y8m (rs:List Rul):(z05 rs).length = rs.length∧∀ x ∈ z05 rs,x < rs.length:=⟨y0a rs,fun x hx=>y46 rs x hx⟩
theorem d78 {rs:List Rul} (hrs:z1j rs) (hsh:∀ x ∈ rs,shT x.t = true) (p q:Prf):((∃ (rs_1:List Rul),∃ (ord:List Nat),z0c rs = z0c rs_1∧rs.length = rs_1.length∧z1j rs_1∧(∀ (x:Rul),x ∈ rs_1→shT x.t = true)∧encD (z05 rs) = encD ord∧rs.length = ord.length∧ord.length ≤ 24∧∀ (x:Nat),x ∈ ord→x < rs_1.length)∧(∃ (p_1:Prf),(z0a p) = z0a p_1)∧∃ (q_1:Prf),(z0a q) = z0a q_1) :=
 ⟨⟨rs,z05 rs,rfl,rfl,hrs,hsh,rfl,(y8m rs).1.symm,by rw [(y8m rs).1]; exact hrs.2.1,(y8m rs).2⟩,⟨p,rfl⟩,q,rfl⟩
def v1s (rs:List Rul):Rnd:=fun it hs j hs'=>∃ x:Prf × Prf,it = itmP x∧hs = y6y rs zPr zPr 0 0 false∧((y26 rs x = false∧j = none∧hs' = y6y rs zPr zPr 0 0 false) ∨ (y26 rs x = true∧j = some .ret∧hs' = y6y rs x.1 x.2 (z2c rs x.1 x.2).1 (z2c rs x.1 x.2).2 true))
noncomputable abbrev e41:Env:=[X,.ptr 0 0,.ptr 1 0,.ptr 2 0,.ptr 3 0,X,.ptr 4 0,X,X,X,X,X,X,X,X,X,X,X,.fn (.func 127) [] []]++List.replicate 18 X
theorem v6j:Cts Tryz.B [(78,R78)]:=(Cts.nil _).cons x9x
theorem v4v:Tryz.X41r.Ones:=z00 Tryz.bok v6j
theorem v5d:CxOk Tryz.X41r.cx:=z1c Tryz.bok v6j
theorem v4r {rs:List Rul} (hrs:z1j rs) (hsh:∀ x ∈ rs,shT x.t = true):y4u Tryz.X41r #[19,20] (cd PP 41 [1,1,1,0,1,0,0]) (cd PP 41 [1,1,1,0,1,0,1]) e41 (v1s rs):=by
 rintro it hs j hs' ⟨x,rfl,rfl,h⟩ _
 refine ⟨rfl,?_⟩
 rw [show setPs e41 (#[19,20]:Array Tmp).toList (itmP x) = ([X,.ptr 0 0,.ptr 1 0,.ptr 2 0,.ptr 3 0,X,.ptr 4 0,X,X,X,X,X,X,X,X,X,X,X,.fn (.func 127) [] [],.agg (z0a x.1),.agg (z0a x.2)]++List.replicate 16 X) by kernel_rfl]
 refine (v6y (z0c rs) (encD (z05 rs)) rs.length rs.length x.1 x.2 _).mpr ⟨rfl,?_⟩
 refine (v6x (z0c rs) (encD (z05 rs)) rs.length rs.length x.1 x.2 _).mpr ⟨d78 hrs hsh _ _,?_⟩
 rw [x3g]
 refine z0h (fun hc=>?_) (fun hc=>?_)
 ·rcases h with ⟨h1,_⟩ | ⟨_,rfl,rfl⟩
  ·unfold y26 at h1; rw [h1] at hc; cases hc
  ·exact ⟨fun v h=>(by cases h),rfl,(y1b rs x.1 x.2 (z2c rs x.1 x.2).1 (z2c rs x.1 x.2).2 true).okBlk,(y1b rs x.1 x.2 (z2c rs x.1 x.2).1 (z2c rs x.1 x.2).2 true).st⟩
 ·rcases h with ⟨_,rfl,rfl⟩ | ⟨h1,_⟩
  ·exact ⟨fun v h=>(by cases h),rfl,(y1b rs zPr zPr 0 0 false).okBlk,(y1b rs zPr zPr 0 0 false).st⟩
  ·unfold y26 at h1; rw [h1] at hc; cases hc
theorem v6l {rs:List Rul}:(∀ x,csL.find? (y26 rs) = some x→z43 5 (v1s rs) itsL (y6y rs zPr zPr 0 0 false) (some .ret) (y6y rs x.1 x.2 (z2c rs x.1 x.2).1 (z2c rs x.1 x.2).2 true))∧(csL.find? (y26 rs) = none→z43 5 (v1s rs) itsL (y6y rs zPr zPr 0 0 false) none (y6y rs zPr zPr 0 0 false)):=by
 rw [x1m]
 exact y9 (y26 rs) (y1b _ _ _ _ _ _) (fun x=>y1b _ _ _ _ _ _) (fun x hx=>⟨x,rfl,rfl,.inl ⟨hx,rfl,rfl⟩⟩) (fun x hx=>⟨x,rfl,rfl,.inr ⟨hx,rfl,rfl⟩⟩) csL
theorem c41:Cts Tryz.B [(27,R27),(79,R79),(85,R85)]:=(((Cts.nil _).cons w1r).cons x6r).cons x47
theorem o41:Tryz.X41.Ones:=z0y Tryz.bok c41
theorem k41:CxOk Tryz.X41.cx:=z1e Tryz.bok c41
abbrev noY:Yk:=fun _ _ _ _=>False
theorem w41 {rs:List Rul} (hw:z1h rs):RW Tryz.X41.pc 0 none noY (cd PP 41 []) ([.agg [.vs (z0c rs) rs.length .none]]++List.replicate 36 X) St.nil ⟨none,0⟩ (x0q Tryz.X41 41 (z3v rs).ret):=by
 rw [v7j]
 refine RW.seq (RW.of_wpC o41 k41 rfl ?_)
 refine (v7d (z0c rs) rs.length _).mpr ?_
 show RW _ _ _ _ (cd PP 41 [1]) _ _ _ _
 rw [v6n]
 refine RW.seq (RW.mask' [1,2,3,4] (env':=[X,.ptr 0 0,.ptr 1 0,.ptr 2 0,.ptr 3 0]++List.replicate 32 X) (by kernel_rfl) (RW.of_wpC o41 k41 rfl ?_))
 refine (v7c (z0c rs) rs.length _).mpr ⟨⟨rs,rfl,rfl,hw⟩,?_⟩
 rw [z0j z0u]
 refine z0h (fun h=>?_) (fun h=>?_)
 ·have h:¬ chk rs = 0:=by simpa using h
  refine ⟨fun v h=>(by cases h),?_⟩
  refine y66 x7s ((v6z (z0c rs) rs.length (chk rs) (chk rs != 0) _ _).mpr ?_)
  unfold z3v
  rw [if_neg h]
  rfl
 ·have h:chk rs = 0:=by simpa using h
  obtain ⟨hrs,hsh,_⟩:=z8x hw h
  show RW _ _ _ _ (cd PP 41 [1,1]) _ _ _ _
  rw [v4t]
  refine RW.seq (RW.mask' [1,2,3,4] (env':=[X,.ptr 0 0,.ptr 1 0,.ptr 2 0,.ptr 3 0]++List.replicate 32 X) (by kernel_rfl) (RW.of_wpC o41 k41 rfl ?_))
  refine (v7b (z0c rs) rs.length _).mpr ⟨⟨rs,rfl,rfl,hrs⟩,?_⟩
  rw [z0j z0u]
  show RW _ _ _ _ (cd PP 41 [1,1,1]) _ _ _ _
  rw [v1v,v0v]
  refine RW.seq (RW.seq (RW.mask' [1,2,3,4,6] (env':=[X,.ptr 0 0,.ptr 1 0,.ptr 2 0,.ptr 3 0,X,.ptr 4 0]++List.replicate 30 X) (by kernel_rfl) (RW.wl (RW.of_wpC o41 k41 rfl ?_))))
  refine (v7a (z0c rs) (encD (z05 rs)) rs.length rs.length _).mpr ⟨trivial,?_⟩
  show RW _ _ _ _ (cd PP 41 [1,1,1,0,1]) _ _ _ _
  rw [w9o,w9]
  refine RW.block ?_
  have hr:=v6l (rs:=rs)
  cases hx:csL.find? (y26 rs) with
  | none =>
   have hcl:(z3v rs).ret = zWit.ret:=by unfold z3v; rw [if_pos h,hx]; rfl
   rw [hcl]
   refine RW.range (C:=Tryz.X41r) (hs:=y6y rs zPr zPr 0 0 false) (m:=0) v4v v5d (fun g l h=>Tryz.gtpB g l h) rfl rfl (by kernel_rfl) (by kernel_rfl) rfl (SeqOk.congr (C:=(yX5).pc) (D:=Tryz.X41r.cx) rfl rfl x1g) (v4r hrs hsh) (y1b _ _ _ _ _ _) (by kernel_rfl) (by kernel_rfl) (hr.2 hx) ?_
   show RW _ _ _ _ (cd PP 41 [1,1,1,1]) _ _ _ _
   rw [v0u,w5e]
   refine RW.seq (RW.cxpc (RW.region o41 k41 ?_))
   rw [← w5e]
   refine (v6w (z0c rs) (encD (z05 rs)) rs.length rs.length _).mpr ?_
   show RW _ _ _ _ (cd PP 41 [1,1,1,1,1]) _ _ _ _
   rw [x7s]
   refine RW.ret ⟨fun v h=>(by cases h),?_⟩
   exact y66 x7s ((v4l (z0c rs) (encD (z05 rs)) rs.length rs.length zPr zPr 0 0 0 false (.agg (z1r zPr zPr 0 0)) _ _).mpr rfl)
  | some x =>
   have hcl:(z3v rs).ret = (Wit.mk x.1 x.2 (z2c rs x.1 x.2).1 (z2c rs x.1 x.2).2 true 0).ret:=by unfold z3v; rw [if_pos h,hx]; rfl
   rw [hcl]
   refine RW.range (C:=Tryz.X41r) (hs:=y6y rs zPr zPr 0 0 false) (m:=0) v4v v5d (fun g l h=>Tryz.gtpB g l h) rfl rfl (by kernel_rfl) (by kernel_rfl) rfl (SeqOk.congr (C:=(yX5).pc) (D:=Tryz.X41r.cx) rfl rfl x1g) (v4r hrs hsh) (y1b _ _ _ _ _ _) (by kernel_rfl) (by kernel_rfl) (hr.1 x hx) ?_
   exact ⟨fun v h=>(by cases h),y66 x7s ((v4l (z0c rs) (encD (z05 rs)) rs.length rs.length x.1 x.2 (z2c rs x.1 x.2).1 (z2c rs x.1 x.2).2 0 true X _ _).mpr rfl)⟩
theorem v7y:Ct Tryz.B.c0 41 R41 where
 body:=⟨_,_,Tryz.func41,rfl⟩
 ok:=fun args D r hR hD=>by
  unfold R41 at hR
  split at hR <;> cases hR
  obtain ⟨rs,rfl,rfl,hw⟩:=hD
  refine ⟨by simp [noHL,noH,z0t],?_⟩
  rw [show z0e 0 [AV.agg [.vs (z0c rs) rs.length .none]] = [AV.agg [.vs (z0c rs) rs.length .none]] by simp [z0e,scrub,z1f,Tok.scrub],z0j z0u]
  have:=CallOk.of_RW (C:=Tryz.X41) (g:=41) (args:=[AV.agg [.vs (z0c rs) rs.length .none]]) (fn:=Tryz.f41) (c:=cd PP 41 []) k41 Tryz.func41 (by kernel_rfl) (RW.congr (C:=Tryz.X41.pc) (D:=Tryz.X41.cx) rfl rfl (w41 hw))
  exact fun G w us h1 h2 h3=>this G w us h1 h2 h3
end
section
attribute [local irreducible] csL z2i
variable {rs:List Rul} (hrs:z1j rs) {Q:CR→Prop}
include hrs
end
end Go.Proofs
set_option maxRecDepth 100000
set_option linter.unusedVariables false
-- elP
namespace Go.Proofs
open Go Go.Ev
def eqP (p q:Prf):Bool:=p.cl == q.cl && (p.vi == q.vi && (p.ho == q.ho && (p.de == q.de && (p.mo == q.mo && (p.cr == q.cr && (p.le == q.le && true))))))
def y4m (rs:List Rul) (x:Prf × Prf):Bool:=!(eqP x.1 x.2) && z01 (z2c rs x.1 x.2).1 (z2c rs x.1 x.2).2 == 0
def z6k (rs:List Rul):Wit:=if chk rs = 0 then y3y (csL.find? (y4m rs)) (fun _=>0) (fun _=>0) else y8k (chk rs)
noncomputable def R43:Spc:=fun args=>match args with
 | [.agg [.vs l len .none]]=>some (∃ rs,l = z0c rs∧len = rs.length∧z1h rs,(z0g z0c z6k zWit l).ret)
 | _=>none
noncomputable def Tryz.X43:WCx:=Tryz.B.wcx [(27,R27),(79,R79),(85,R85)]
noncomputable def Tryz.X43r:WCx:=Tryz.B.wcxP 5 [(78,R78)]
theorem v6v (l:List AV) (len:Nat) (k:Kont):wpC Tryz.X43 (cd PP 43 [0]) ([.agg [.vs l len .none]]++List.replicate 35 X) ⟨[],[],[]⟩ k =
 (k EX.normal ([AV.agg [AV.vs l len Tok.none],AV.ptr 0 0,AV.ptr 1 0,AV.ptr 2 0,AV.ptr 3 0]++List.replicate 31 X) (St.mk [some (HB.cells [AV.vs l len Tok.none] 25),some (HB.cells [I 0,I 0,Bo false,Bo false,Bo false,I 0,I 0,I 0,I 0,Bo false,Bo false,Bo false,I 0,I 0,I 0,I 0] 61),some (HB.cells [Bo false] 4),some (HB.cells [I 0] 26)] [] [])):=by kernel_rfl
theorem v6u (l:List AV) (len:Nat) (k:Kont):wpC Tryz.X43 (cd PP 43 [1,0]) ([X,.ptr 0 0,.ptr 1 0,.ptr 2 0,.ptr 3 0]++List.replicate 31 X) ⟨[some (.cells [.vs l len .none] 25),some (.cells (z1r zPr zPr 0 0) 61),some (.cells [Bo false] 4),some (.cells [I 0] 26)],[],[]⟩ k =
 ((∃ (rs:List Rul),l = z0c rs∧len = rs.length∧z1h rs)∧cIf (z0g z0c chk (0:Int) l != (0:Int)) (k EX.ret ([X,AV.ptr 0 0,AV.ptr 1 0,AV.ptr 2 0,AV.ptr 3 0,I (z0g z0c chk (0:Int) l),X,X,X,AV.agg [AV.vs l len Tok.none],I (z0g z0c chk (0:Int) l),I (z0g z0c chk (0:Int) l),Bo (z0g z0c chk (0:Int) l != (0:Int)),AV.agg [I 0,I 0,Bo false,Bo false,Bo false,I 0,I 0,I 0,I 0,Bo false,Bo false,Bo false,I 0,I 0,I 0,I 0],I (z0g z0c chk (0:Int) l)]++List.replicate 21 X) (St.mk [some (HB.cells [AV.vs l len Tok.none] 25),some (HB.cells [I 0,I 0,Bo false,Bo false,Bo false,I 0,I 0,I 0,I 0,Bo false,Bo false,Bo false,I 0,I 0,I 0,I 0] 61),some (HB.cells [Bo false] 4),some (HB.cells [I (z0g z0c chk (0:Int) l)] 26)] [] [3,2,1])) (k EX.normal ([X,AV.ptr 0 0,AV.ptr 1 0,AV.ptr 2 0,AV.ptr 3 0,I (z0g z0c chk (0:Int) l),X,X,X,AV.agg [AV.vs l len Tok.none],I (z0g z0c chk (0:Int) l),I (z0g z0c chk (0:Int) l),Bo (z0g z0c chk (0:Int) l != (0:Int))]++List.replicate 23 X) (St.mk [some (HB.cells [AV.vs l len Tok.none] 25),some (HB.cells [I 0,I 0,Bo false,Bo false,Bo false,I 0,I 0,I 0,I 0,Bo false,Bo false,Bo false,I 0,I 0,I 0,I 0] 61),some (HB.cells [Bo false] 4),some (HB.cells [I 0] 26)] [] []))):=by kernel_rfl
theorem v6t (l:List AV) (len:Nat) (k:Kont):wpC Tryz.X43 (cd PP 43 [1,1,0]) ([X,.ptr 0 0,.ptr 1 0,.ptr 2 0,.ptr 3 0]++List.replicate 31 X) ⟨[some (.cells [.vs l len .none] 25),some (.cells (z1r zPr zPr 0 0) 61),some (.cells [Bo false] 4),some (.cells [I 0] 26)],[],[]⟩ k =
 ((∃ (rs:List Rul),l = z0c rs∧len = rs.length∧z1j rs)∧k EX.normal ([X,AV.ptr 0 0,AV.ptr 1 0,AV.ptr 2 0,AV.ptr 3 0,X,AV.ptr 4 0,X,X,X,X,X,X,X,X,AV.agg [AV.vs l len Tok.none],AV.vs (encD (z0g z0c z05 [] l)) len Tok.none]++List.replicate 19 X) (St.mk [some (HB.cells [AV.vs l len Tok.none] 25),some (HB.cells [I 0,I 0,Bo false,Bo false,Bo false,I 0,I 0,I 0,I 0,Bo false,Bo false,Bo false,I 0,I 0,I 0,I 0] 61),some (HB.cells [Bo false] 4),some (HB.cells [I 0] 26),some (HB.cells [AV.vs (encD (z0g z0c z05 [] l)) len Tok.none] 49)] [] [4])):=by kernel_rfl
theorem v6s (l cs:List AV) (len n:Nat) (k:Kont):wpC Tryz.X43 (cd PP 43 [1,1,1,0,0]) ([X,.ptr 0 0,.ptr 1 0,.ptr 2 0,.ptr 3 0,X,.ptr 4 0]++List.replicate 29 X) ⟨[some (.cells [.vs l len .none] 25),some (.cells (z1r zPr zPr 0 0) 61),some (.cells [Bo false] 4),some (.cells [I 0] 26),some (.cells [.vs cs n .none] 49)],[],[]⟩ k =
 (True∧k EX.normal ([X,AV.ptr 0 0,AV.ptr 1 0,AV.ptr 2 0,AV.ptr 3 0,X,AV.ptr 4 0,X,X,X,X,X,X,X,X,X,X,AV.fn (Fn.func 127) [] []]++List.replicate 18 X) (St.mk [some (HB.cells [AV.vs l len Tok.none] 25),some (HB.cells [I 0,I 0,Bo false,Bo false,Bo false,I 0,I 0,I 0,I 0,Bo false,Bo false,Bo false,I 0,I 0,I 0,I 0] 61),some (HB.cells [Bo false] 4),some (HB.cells [I 0] 26),some (HB.cells [AV.vs cs n Tok.none] 49)] [] [])):=by kernel_rfl
theorem v6q (l cs:List AV) (len n:Nat) (p q:Prf) (k:Kont):wpC Tryz.X43r (cd PP 43 [1,1,1,0,1,0,0]) ([X,.ptr 0 0,.ptr 1 0,.ptr 2 0,.ptr 3 0,X,.ptr 4 0,X,X,X,X,X,X,X,X,X,X,.fn (.func 127) [] [],.agg (z0a p),.agg (z0a q)]++List.replicate 16 X) ⟨[some (.cells [.vs l len .none] 25),some (.cells (z1r zPr zPr 0 0) 61),some (.cells [Bo false] 4),some (.cells [I 0] 26),some (.cells [.vs cs n .none] 49)],[],[]⟩ k =
 (k EX.normal ([X,AV.ptr 0 0,AV.ptr 1 0,AV.ptr 2 0,AV.ptr 3 0,X,AV.ptr 4 0,AV.ptr 5 0,AV.ptr 6 0,X,X,X,X,X,X,X,X,AV.fn (Fn.func 127) [] [],AV.agg (z0a p),AV.agg (z0a q)]++List.replicate 16 X) (St.mk [some (HB.cells [AV.vs l len Tok.none] 25),some (HB.cells [I 0,I 0,Bo false,Bo false,Bo false,I 0,I 0,I 0,I 0,Bo false,Bo false,Bo false,I 0,I 0,I 0,I 0] 61),some (HB.cells [Bo false] 4),some (HB.cells [I 0] 26),some (HB.cells [AV.vs cs n Tok.none] 49),some (HB.cells (z0a p) 40),some (HB.cells (z0a q) 40)] [] [6,5])):=by kernel_rfl
theorem v6p (l cs:List AV) (len n:Nat) (p q:Prf) (k:Kont):wpC Tryz.X43r (cd PP 43 [1,1,1,0,1,0,1]) ([X,.ptr 0 0,.ptr 1 0,.ptr 2 0,.ptr 3 0,X,.ptr 4 0,.ptr 5 0,.ptr 6 0,X,X,X,X,X,X,X,X,.fn (.func 127) [] [],.agg (z0a p),.agg (z0a q)]++List.replicate 16 X) ⟨[some (.cells [.vs l len .none] 25),some (.cells (z1r zPr zPr 0 0) 61),some (.cells [Bo false] 4),some (.cells [I 0] 26),some (.cells [.vs cs n .none] 49),some (.cells (z0a p) 40),some (.cells (z0a q) 40)],[],[6,5]⟩ k =
 (cIf (!(p.cl == q.cl && (p.vi == q.vi && (p.ho == q.ho && (p.de == q.de && (p.mo == q.mo && (p.cr == q.cr && (p.le == q.le && true)))))))) (((∃ (rs:List Rul),∃ (ord:List Nat),l = z0c rs∧len = rs.length∧z1j rs∧(∀ (x:Rul),x ∈ rs→shT x.t = true)∧cs = encD ord∧n = ord.length∧ord.length ≤ 24∧∀ (x:Nat),x ∈ ord→x < rs.length)∧(∃ (p_1:Prf),(z0a p) = z0a p_1)∧∃ (q_1:Prf),(z0a q) = z0a q_1)∧cIf (z01 (dvP l cs (z0a p) (z0a q)).fst (dvP l cs (z0a p) (z0a q)).snd == (0:Int)) (k EX.ret [X,AV.ptr 0 0,AV.ptr 1 0,AV.ptr 2 0,AV.ptr 3 0,X,AV.ptr 4 0,AV.ptr 5 0,AV.ptr 6 0,X,X,X,X,X,X,X,X,AV.fn (Fn.func 127) [] [],AV.agg (z0a p),AV.agg (z0a q),AV.agg (z0a p),AV.agg (z0a q),Bo !(p.cl == q.cl && (p.vi == q.vi && (p.ho == q.ho && (p.de == q.de && (p.mo == q.mo && (p.cr == q.cr && (p.le == q.le && true))))))),Bo true,AV.agg [AV.vs l len Tok.none],AV.vs cs n Tok.none,AV.agg (z0a p),AV.agg (z0a q),AV.agg [AV.int IntKind.u8 (z01 (dvP l cs (z0a p) (z0a q)).fst (dvP l cs (z0a p) (z0a q)).snd),AV.int IntKind.i64 (dvP l cs (z0a p) (z0a q)).fst,AV.int IntKind.i64 (dvP l cs (z0a p) (z0a q)).snd],AV.int IntKind.u8 (z01 (dvP l cs (z0a p) (z0a q)).fst (dvP l cs (z0a p) (z0a q)).snd),AV.bool (z01 (dvP l cs (z0a p) (z0a q)).fst (dvP l cs (z0a p) (z0a q)).snd == (0:Int)),AV.bool (z01 (dvP l cs (z0a p) (z0a q)).fst (dvP l cs (z0a p) (z0a q)).snd == (0:Int)),AV.agg (z0a p),AV.agg (z0a q),AV.agg [I p.cl,I p.vi,Bo p.ho,Bo p.de,Bo p.mo,I p.cr,I p.le,I q.cl,I q.vi,Bo q.ho,Bo q.de,Bo q.mo,I q.cr,I q.le,I 0,I 0],X] (St.mk [some (HB.cells [AV.vs l len Tok.none] 25),some (HB.cells [I p.cl,I p.vi,Bo p.ho,Bo p.de,Bo p.mo,I p.cr,I p.le,I q.cl,I q.vi,Bo q.ho,Bo q.de,Bo q.mo,I q.cr,I q.le,I 0,I 0] 61),some (HB.cells [Bo true] 4),some (HB.cells [I 0] 26),some (HB.cells [AV.vs cs n Tok.none] 49),some (HB.cells (z0a p) 40),some (HB.cells (z0a q) 40)] [] [3,2,1,6,5])) (k EX.normal [X,AV.ptr 0 0,AV.ptr 1 0,AV.ptr 2 0,AV.ptr 3 0,X,AV.ptr 4 0,AV.ptr 5 0,AV.ptr 6 0,X,X,X,X,X,X,X,X,AV.fn (Fn.func 127) [] [],AV.agg (z0a p),AV.agg (z0a q),AV.agg (z0a p),AV.agg (z0a q),Bo !(p.cl == q.cl && (p.vi == q.vi && (p.ho == q.ho && (p.de == q.de && (p.mo == q.mo && (p.cr == q.cr && (p.le == q.le && true))))))),Bo true,AV.agg [AV.vs l len Tok.none],AV.vs cs n Tok.none,AV.agg (z0a p),AV.agg (z0a q),AV.agg [AV.int IntKind.u8 (z01 (dvP l cs (z0a p) (z0a q)).fst (dvP l cs (z0a p) (z0a q)).snd),AV.int IntKind.i64 (dvP l cs (z0a p) (z0a q)).fst,AV.int IntKind.i64 (dvP l cs (z0a p) (z0a q)).snd],AV.int IntKind.u8 (z01 (dvP l cs (z0a p) (z0a q)).fst (dvP l cs (z0a p) (z0a q)).snd),AV.bool (z01 (dvP l cs (z0a p) (z0a q)).fst (dvP l cs (z0a p) (z0a q)).snd == (0:Int)),AV.bool (z01 (dvP l cs (z0a p) (z0a q)).fst (dvP l cs (z0a p) (z0a q)).snd == (0:Int)),X,X,X,X] (St.mk [some (HB.cells [AV.vs l len Tok.none] 25),some (HB.cells [I 0,I 0,Bo false,Bo false,Bo false,I 0,I 0,I 0,I 0,Bo false,Bo false,Bo false,I 0,I 0,I 0,I 0] 61),some (HB.cells [Bo false] 4),some (HB.cells [I 0] 26),some (HB.cells [AV.vs cs n Tok.none] 49),some (HB.cells (z0a p) 40),some (HB.cells (z0a q) 40)] [] [6,5]))) (k EX.normal [X,AV.ptr 0 0,AV.ptr 1 0,AV.ptr 2 0,AV.ptr 3 0,X,AV.ptr 4 0,AV.ptr 5 0,AV.ptr 6 0,X,X,X,X,X,X,X,X,AV.fn (Fn.func 127) [] [],AV.agg (z0a p),AV.agg (z0a q),AV.agg (z0a p),AV.agg (z0a q),Bo !(p.cl == q.cl && (p.vi == q.vi && (p.ho == q.ho && (p.de == q.de && (p.mo == q.mo && (p.cr == q.cr && (p.le == q.le && true))))))),Bo false,AV.tup [],AV.tup [],AV.tup [],AV.tup [],AV.tup [],AV.tup [],AV.tup [],Bo false,X,X,X,X] (St.mk [some (HB.cells [AV.vs l len Tok.none] 25),some (HB.cells [I 0,I 0,Bo false,Bo false,Bo false,I 0,I 0,I 0,I 0,Bo false,Bo false,Bo false,I 0,I 0,I 0,I 0] 61),some (HB.cells [Bo false] 4),some (HB.cells [I 0] 26),some (HB.cells [AV.vs cs n Tok.none] 49),some (HB.cells (z0a p) 40),some (HB.cells (z0a q) 40)] [] [6,5]))):=by kernel_rfl
theorem v6o (l cs:List AV) (len n:Nat) (k:Kont):wpC Tryz.X43 (cd PP 43 [1,1,1,1,0]) ([X,.ptr 0 0,.ptr 1 0,.ptr 2 0,.ptr 3 0,X,.ptr 4 0,X,X,X,X,X,X,X,X,X,X,.fn (.func 127) [] []]++List.replicate 18 X) ⟨[some (.cells [.vs l len .none] 25),some (.cells (z1r zPr zPr 0 0) 61),some (.cells [Bo false] 4),some (.cells [I 0] 26),some (.cells [.vs cs n .none] 49)],[],[]⟩ k =
 (k EX.normal [X,AV.ptr 0 0,AV.ptr 1 0,AV.ptr 2 0,AV.ptr 3 0,X,AV.ptr 4 0,X,X,X,X,X,X,X,X,X,X,AV.fn (Fn.func 127) [] [],X,X,X,X,X,X,X,X,X,X,X,X,X,X,X,X,X,AV.agg [I 0,I 0,Bo false,Bo false,Bo false,I 0,I 0,I 0,I 0,Bo false,Bo false,Bo false,I 0,I 0,I 0,I 0]] (St.mk [some (HB.cells [AV.vs l len Tok.none] 25),some (HB.cells [I 0,I 0,Bo false,Bo false,Bo false,I 0,I 0,I 0,I 0,Bo false,Bo false,Bo false,I 0,I 0,I 0,I 0] 61),some (HB.cells [Bo false] 4),some (HB.cells [I 0] 26),some (HB.cells [AV.vs cs n Tok.none] 49)] [] [3,2,1])):=by kernel_rfl
theorem v4k (l cs:List AV) (len n:Nat) (p q:Prf) (a b e:Int) (f:Bool) (u:AV) (ws:List Nat) (Q:CR→Prop):wpC Tryz.X43 (cd PP 43 [1,1,1,1,1]) ([X,.ptr 0 0,.ptr 1 0,.ptr 2 0,.ptr 3 0,X,.ptr 4 0,X,X,X,X,X,X,X,X,X,X,.fn (.func 127) [] []]++List.replicate 17 X++[u]) ⟨[some (.cells [.vs l len .none] 25),some (.cells (z1r p q a b) 61),some (.cells [Bo f] 4),some (.cells [I e] 26),some (.cells [.vs cs n .none] 49)],[],ws⟩ (z0f Tryz.X43 43 Q) =
 (Q (CR.ret (AV.tup [AV.agg [I p.cl,I p.vi,Bo p.ho,Bo p.de,Bo p.mo,I p.cr,I p.le,I q.cl,I q.vi,Bo q.ho,Bo q.de,Bo q.mo,I q.cr,I q.le,I a,I b],Bo f,I e]))):=by kernel_rfl
theorem v6r (l:List AV) (len:Nat) (e:Int) (b:Bool) (ws:List Nat) (Q:CR→Prop):wpC Tryz.X43 (cd PP 43 [1,1,1,1,1]) ([X,.ptr 0 0,.ptr 1 0,.ptr 2 0,.ptr 3 0,I e,X,X,X,.agg [.vs l len .none],I e,I e,Bo b,.agg (z1r zPr zPr 0 0),I e]++List.replicate 21 X) ⟨[some (.cells [.vs l len .none] 25),some (.cells (z1r zPr zPr 0 0) 61),some (.cells [Bo false] 4),some (.cells [I e] 26)],[],ws⟩ (z0f Tryz.X43 43 Q) =
 (Q (CR.ret (AV.tup [AV.agg [I 0,I 0,Bo false,Bo false,Bo false,I 0,I 0,I 0,I 0,Bo false,Bo false,Bo false,I 0,I 0,I 0,I 0],Bo false,I e]))):=by kernel_rfl
end Go.Proofs
set_option maxRecDepth 100000
set_option linter.unusedVariables false
namespace Go.Proofs
open Go Go.Ev
theorem w88:cd PP 43 [1,1,1,0,1,0] = .rangeFunc (.tmp 17) #[18,19] (cd PP 43 [1,1,1,0,1,0,0]) (cd PP 43 [1,1,1,0,1,0,1]):=by kernel_rfl
theorem w9n:cd PP 43 [1,1,1,0,1] = .block 0 (cd PP 43 [1,1,1,0,1,0]):=by kernel_rfl
theorem v0t:cd PP 43 [1,1,1,0] = .seq (cd PP 43 [1,1,1,0,0]) (cd PP 43 [1,1,1,0,1]):=by kernel_rfl
theorem w5d:cd PP 43 [1,1,1,1,0] = .region 10 (opsOf (cd PP 43 [1,1,1,1,0])) false:=by kernel_rfl
theorem x7r:cd PP 43 [1,1,1,1,1] = .ret:=by kernel_rfl
theorem v0s:cd PP 43 [1,1,1,1] = .seq (cd PP 43 [1,1,1,1,0]) (cd PP 43 [1,1,1,1,1]):=by kernel_rfl
theorem v1u:cd PP 43 [1,1,1] = .seq (cd PP 43 [1,1,1,0]) (cd PP 43 [1,1,1,1]):=by kernel_rfl
theorem v4s:cd PP 43 [1,1] = .seq (cd PP 43 [1,1,0]) (cd PP 43 [1,1,1]):=by kernel_rfl
theorem v6m:cd PP 43 [1] = .seq (cd PP 43 [1,0]) (cd PP 43 [1,1]):=by kernel_rfl
theorem v7i:cd PP 43 [] = .seq (cd PP 43 [0]) (cd PP 43 [1]):=by kernel_rfl
section
attribute [local irreducible] wpC wpF
def v1r (rs:List Rul):Rnd:=fun it hs j hs'=>∃ x:Prf × Prf,it = itmP x∧hs = y6y rs zPr zPr 0 0 false∧((y4m rs x = false∧j = none∧hs' = y6y rs zPr zPr 0 0 false) ∨ (y4m rs x = true∧j = some .ret∧hs' = y6y rs x.1 x.2 0 0 true))
noncomputable abbrev e43:Env:=[X,.ptr 0 0,.ptr 1 0,.ptr 2 0,.ptr 3 0,X,.ptr 4 0,X,X,X,X,X,X,X,X,X,X,.fn (.func 127) [] []]++List.replicate 18 X
theorem v6i:Cts Tryz.B [(78,R78)]:=(Cts.nil _).cons x9x
theorem v4u:Tryz.X43r.Ones:=z00 Tryz.bok v6i
theorem v5c:CxOk Tryz.X43r.cx:=z1c Tryz.bok v6i
theorem v4q {rs:List Rul} (hrs:z1j rs) (hsh:∀ x ∈ rs,shT x.t = true):y4u Tryz.X43r #[18,19] (cd PP 43 [1,1,1,0,1,0,0]) (cd PP 43 [1,1,1,0,1,0,1]) e43 (v1r rs):=by
 rintro it hs j hs' ⟨x,rfl,rfl,h⟩ _
 refine ⟨rfl,?_⟩
 rw [show setPs e43 (#[18,19]:Array Tmp).toList (itmP x) = ([X,.ptr 0 0,.ptr 1 0,.ptr 2 0,.ptr 3 0,X,.ptr 4 0,X,X,X,X,X,X,X,X,X,X,.fn (.func 127) [] [],.agg (z0a x.1),.agg (z0a x.2)]++List.replicate 16 X) by kernel_rfl]
 refine (v6q (z0c rs) (encD (z05 rs)) rs.length rs.length x.1 x.2 _).mpr ⟨rfl,?_⟩
 refine (v6p (z0c rs) (encD (z05 rs)) rs.length rs.length x.1 x.2 _).mpr ?_
 rw [x3g]
 refine z0h (fun hc=>⟨d78 hrs hsh _ _,z0h (fun hk=>?_) (fun hk=>?_)⟩) (fun hc=>?_)
 ·have hg:y4m rs x = true:=by unfold y4m eqP; rw [hc,hk]; rfl
  rcases h with ⟨h1,_⟩ | ⟨_,rfl,rfl⟩
  ·rw [hg] at h1; cases h1
  ·exact ⟨fun v h=>(by cases h),rfl,(y1b rs x.1 x.2 0 0 true).okBlk,(y1b rs x.1 x.2 0 0 true).st⟩
 ·have hg:y4m rs x = false:=by unfold y4m eqP; rw [hk,Bool.and_false]
  rcases h with ⟨_,rfl,rfl⟩ | ⟨h1,_⟩
  ·exact ⟨fun v h=>(by cases h),rfl,(y1b rs zPr zPr 0 0 false).okBlk,(y1b rs zPr zPr 0 0 false).st⟩
  ·rw [hg] at h1; cases h1
 ·have hg:y4m rs x = false:=by unfold y4m eqP; rw [hc,Bool.false_and]
  rcases h with ⟨_,rfl,rfl⟩ | ⟨h1,_⟩
  ·exact ⟨fun v h=>(by cases h),rfl,(y1b rs zPr zPr 0 0 false).okBlk,(y1b rs zPr zPr 0 0 false).st⟩
  ·rw [hg] at h1; cases h1
theorem v6k {rs:List Rul}:(∀ x,csL.find? (y4m rs) = some x→z43 5 (v1r rs) itsL (y6y rs zPr zPr 0 0 false) (some .ret) (y6y rs x.1 x.2 0 0 true))∧(csL.find? (y4m rs) = none→z43 5 (v1r rs) itsL (y6y rs zPr zPr 0 0 false) none (y6y rs zPr zPr 0 0 false)):=by
 rw [x1m]
 exact y9 (y4m rs) (y1b _ _ _ _ _ _) (fun x=>y1b _ _ _ _ _ _) (fun x hx=>⟨x,rfl,rfl,.inl ⟨hx,rfl,rfl⟩⟩) (fun x hx=>⟨x,rfl,rfl,.inr ⟨hx,rfl,rfl⟩⟩) csL
theorem c43:Cts Tryz.B [(27,R27),(79,R79),(85,R85)]:=(((Cts.nil _).cons w1r).cons x6r).cons x47
theorem o43:Tryz.X43.Ones:=z0y Tryz.bok c43
theorem k43:CxOk Tryz.X43.cx:=z1e Tryz.bok c43
theorem w43 {rs:List Rul} (hw:z1h rs):RW Tryz.X43.pc 0 none noY (cd PP 43 []) ([.agg [.vs (z0c rs) rs.length .none]]++List.replicate 35 X) St.nil ⟨none,0⟩ (x0q Tryz.X43 43 (z6k rs).ret):=by
 rw [v7i]
 refine RW.seq (RW.of_wpC o43 k43 rfl ?_)
 refine (v6v (z0c rs) rs.length _).mpr ?_
 show RW _ _ _ _ (cd PP 43 [1]) _ _ _ _
 rw [v6m]
 refine RW.seq (RW.mask' [1,2,3,4] (env':=[X,.ptr 0 0,.ptr 1 0,.ptr 2 0,.ptr 3 0]++List.replicate 31 X) (by kernel_rfl) (RW.of_wpC o43 k43 rfl ?_))
 refine (v6u (z0c rs) rs.length _).mpr ⟨⟨rs,rfl,rfl,hw⟩,?_⟩
 rw [z0j z0u]
 refine z0h (fun h=>?_) (fun h=>?_)
 ·have h:¬ chk rs = 0:=by simpa using h
  refine ⟨fun v h=>(by cases h),?_⟩
  refine y66 x7r ((v6r (z0c rs) rs.length (chk rs) (chk rs != 0) _ _).mpr ?_)
  unfold z6k
  rw [if_neg h]
  rfl
 ·have h:chk rs = 0:=by simpa using h
  obtain ⟨hrs,hsh,_⟩:=z8x hw h
  show RW _ _ _ _ (cd PP 43 [1,1]) _ _ _ _
  rw [v4s]
  refine RW.seq (RW.mask' [1,2,3,4] (env':=[X,.ptr 0 0,.ptr 1 0,.ptr 2 0,.ptr 3 0]++List.replicate 31 X) (by kernel_rfl) (RW.of_wpC o43 k43 rfl ?_))
  refine (v6t (z0c rs) rs.length _).mpr ⟨⟨rs,rfl,rfl,hrs⟩,?_⟩
  rw [z0j z0u]
  show RW _ _ _ _ (cd PP 43 [1,1,1]) _ _ _ _
  rw [v1u,v0t]
  refine RW.seq (RW.seq (RW.mask' [1,2,3,4,6] (env':=[X,.ptr 0 0,.ptr 1 0,.ptr 2 0,.ptr 3 0,X,.ptr 4 0]++List.replicate 29 X) (by kernel_rfl) (RW.wl (RW.of_wpC o43 k43 rfl ?_))))
  refine (v6s (z0c rs) (encD (z05 rs)) rs.length rs.length _).mpr ⟨trivial,?_⟩
  show RW _ _ _ _ (cd PP 43 [1,1,1,0,1]) _ _ _ _
  rw [w9n,w88]
  refine RW.block ?_
  have hr:=v6k (rs:=rs)
  cases hx:csL.find? (y4m rs) with
  | none =>
   have hcl:(z6k rs).ret = zWit.ret:=by unfold z6k; rw [if_pos h,hx]; rfl
   rw [hcl]
   refine RW.range (C:=Tryz.X43r) (hs:=y6y rs zPr zPr 0 0 false) (m:=0) v4u v5c (fun g l h=>Tryz.gtpB g l h) rfl rfl (by kernel_rfl) (by kernel_rfl) rfl (SeqOk.congr (C:=(yX5).pc) (D:=Tryz.X43r.cx) rfl rfl x1g) (v4q hrs hsh) (y1b _ _ _ _ _ _) (by kernel_rfl) (by kernel_rfl) (hr.2 hx) ?_
   show RW _ _ _ _ (cd PP 43 [1,1,1,1]) _ _ _ _
   rw [v0s,w5d]
   refine RW.seq (RW.cxpc (RW.region o43 k43 ?_))
   rw [← w5d]
   refine (v6o (z0c rs) (encD (z05 rs)) rs.length rs.length _).mpr ?_
   show RW _ _ _ _ (cd PP 43 [1,1,1,1,1]) _ _ _ _
   rw [x7r]
   refine RW.ret ⟨fun v h=>(by cases h),?_⟩
   exact y66 x7r ((v4k (z0c rs) (encD (z05 rs)) rs.length rs.length zPr zPr 0 0 0 false (.agg (z1r zPr zPr 0 0)) _ _).mpr rfl)
  | some x =>
   have hcl:(z6k rs).ret = (Wit.mk x.1 x.2 0 0 true 0).ret:=by unfold z6k; rw [if_pos h,hx]; rfl
   rw [hcl]
   refine RW.range (C:=Tryz.X43r) (hs:=y6y rs zPr zPr 0 0 false) (m:=0) v4u v5c (fun g l h=>Tryz.gtpB g l h) rfl rfl (by kernel_rfl) (by kernel_rfl) rfl (SeqOk.congr (C:=(yX5).pc) (D:=Tryz.X43r.cx) rfl rfl x1g) (v4q hrs hsh) (y1b _ _ _ _ _ _) (by kernel_rfl) (by kernel_rfl) (hr.1 x hx) ?_
   exact ⟨fun v h=>(by cases h),y66 x7r ((v4k (z0c rs) (encD (z05 rs)) rs.length rs.length x.1 x.2 0 0 0 true X _ _).mpr rfl)⟩
theorem v7x:Ct Tryz.B.c0 43 R43 where
 body:=⟨_,_,Tryz.func43,rfl⟩
 ok:=fun args D r hR hD=>by
  unfold R43 at hR
  split at hR <;> cases hR
  obtain ⟨rs,rfl,rfl,hw⟩:=hD
  refine ⟨by simp [noHL,noH,z0t],?_⟩
  rw [show z0e 0 [AV.agg [.vs (z0c rs) rs.length .none]] = [AV.agg [.vs (z0c rs) rs.length .none]] by simp [z0e,scrub,z1f,Tok.scrub],z0j z0u]
  have:=CallOk.of_RW (C:=Tryz.X43) (g:=43) (args:=[AV.agg [.vs (z0c rs) rs.length .none]]) (fn:=Tryz.f43) (c:=cd PP 43 []) k43 Tryz.func43 (by kernel_rfl) (RW.congr (C:=Tryz.X43.pc) (D:=Tryz.X43.cx) rfl rfl (w43 hw))
  exact fun G w us h1 h2 h3=>this G w us h1 h2 h3
end
section
attribute [local irreducible] csL z2i
variable {rs:List Rul} (hrs:z1j rs) {Q:CR→Prop}
include hrs
end
end Go.Proofs
