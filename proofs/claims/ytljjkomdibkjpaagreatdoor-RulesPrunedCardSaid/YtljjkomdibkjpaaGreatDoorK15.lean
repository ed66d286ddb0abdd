/- Contracts of functions of the program and of the reference. -/
import Derived.Test.YtljjkomdibkjpaaGreatDoorK14
set_option linter.unusedVariables false
set_option linter.unusedSimpArgs false
set_option maxRecDepth 100000
set_option linter.unusedVariables false
-- elP
namespace Go.Proofs
open Go Go.Ev
def z1r (p q:Prf) (a b:Int):List AV:=[I p.cl,I p.vi,Bo p.ho,Bo p.de,Bo p.mo,I p.cr,I p.le,I q.cl,I q.vi,Bo q.ho,Bo q.de,Bo q.mo,I q.cr,I q.le,I a,I b]
def R85:Spc:=fun args=>match args with
 | []=>some (True,.ret (.fn (.func 127) [] []))
 | _=>none
structure Wit where
 p:Prf
 q:Prf
 a:Int
 b:Int
 f:Bool
 e:Int
def zWit:Wit:=⟨zPr,zPr,0,0,false,0⟩
def Wit.ret (w:Wit):CR:=.ret (.tup [.agg (z1r w.p w.q w.a w.b),Bo w.f,I w.e])
def y3y (x:Option (Prf × Prf)) (a b:Prf × Prf→Int):Wit:=match x with
 | some x=>⟨x.1,x.2,a x,b x,true,0⟩
 | none=>zWit
def y8k (e:Int):Wit:=⟨zPr,zPr,0,0,false,e⟩
def y26 (rs:List Rul) (x:Prf × Prf):Bool:=z01 (z2c rs x.1 x.2).1 (z2c rs x.1 x.2).2 == 3
def z3v (rs:List Rul):Wit:=if chk rs = 0 then y3y (csL.find? (y26 rs)) (fun x=>(z2c rs x.1 x.2).1) (fun x=>(z2c rs x.1 x.2).2) else y8k (chk rs)
noncomputable def Tryz.X85:WCx:=Tryz.B.wcx []
theorem v85 (Q:CR→Prop):wpF Tryz.X85 85 [] Q =
 (Q (CR.ret (AV.fn (Fn.func 127) [] []))):=by kernel_rfl
end Go.Proofs
set_option maxRecDepth 100000
set_option linter.unusedVariables false
namespace Go.Proofs
open Go Go.Ev
theorem w1r:Ct Tryz.B.c0 85 R85:=Ct.of_wp (l:=[]) (lm:=[]) (tp:=[]) (ct:=[]) (sm:=[]) Tryz.bok (Cts.nil _) ⟨_,_,Tryz.func85,rfl⟩ fun args D r hR hD=>by
 unfold R85 at hR
 split at hR <;> cases hR
 refine ⟨rfl,?_⟩
 show wpF Tryz.X85 85 [] _
 rw [v85]
theorem y66 {C:WCx} {c:Code} (hc:c = .ret) {env:Env} {S:St} {k:Kont} (h:wpC C c env S k):k .ret env S:=by subst hc; exact h
section
attribute [local irreducible] wpC wpF
theorem y8m (rs:List Rul):(z05 rs).length = rs.length∧∀ x ∈ z05 rs,x < rs.length:=⟨y0a rs,fun x hx=>y46 rs x hx⟩
theorem d78 {rs:List Rul} (hrs:z1j rs) (hsh:∀ x ∈ rs,shT x.t = true) (p q:Prf):((∃ (rs_1:List Rul),∃ (ord:List Nat),z0c rs = z0c rs_1∧rs.length = rs_1.length∧z1j rs_1∧(∀ (x:Rul),x ∈ rs_1→shT x.t = true)∧encD (z05 rs) = encD ord∧rs.length = ord.length∧ord.length ≤ 24∧∀ (x:Nat),x ∈ ord→x < rs_1.length)∧(∃ (p_1:Prf),(z0a p) = z0a p_1)∧∃ (q_1:Prf),(z0a q) = z0a q_1) :=
 ⟨⟨rs,z05 rs,rfl,rfl,hrs,hsh,rfl,(y8m rs).1.symm,by rw [(y8m rs).1]; exact hrs.2.1,(y8m rs).2⟩,⟨p,rfl⟩,q,rfl⟩
abbrev noY:Yk:=fun _ _ _ _=>False
end
section
attribute [local irreducible] csL z2i
variable {rs:List Rul} (hrs:z1j rs) {Q:CR→Prop}
include hrs
end
end Go.Proofs
set_option maxRecDepth 100000
set_option linter.unusedVariables false
-- elP
namespace Go.Proofs
open Go Go.Ev
def eqP (p q:Prf):Bool:=p.cl == q.cl && (p.vi == q.vi && (p.ho == q.ho && (p.de == q.de && (p.mo == q.mo && (p.cr == q.cr && (p.le == q.le && true))))))
def y4m (rs:List Rul) (x:Prf × Prf):Bool:=!(eqP x.1 x.2) && z01 (z2c rs x.1 x.2).1 (z2c rs x.1 x.2).2 == 0
def z6k (rs:List Rul):Wit:=if chk rs = 0 then y3y (csL.find? (y4m rs)) (fun _=>0) (fun _=>0) else y8k (chk rs)
end Go.Proofs
set_option maxRecDepth 100000
set_option linter.unusedVariables false
namespace Go.Proofs
open Go Go.Ev
section
attribute [local irreducible] wpC wpF
end
section
attribute [local irreducible] csL z2i
variable {rs:List Rul} (hrs:z1j rs) {Q:CR→Prop}
include hrs
end
end Go.Proofs
