/- Contracts of functions of the program and of the reference. -/
import Derived.Test.YtljjkomdibkjpaaGreatDoorK14
set_option linter.unusedVariables false
set_option linter.unusedSimpArgs false
set_option maxRecDepth 100000
set_option linter.unusedVariables false
-- elP
namespace Go.Proofs
open Go Go.Ev
def z1r (p q:Prf) (a b:Int):List AV:=[I p.cl,I p.vi,Bo p.ho,Bo p.de,Bo p.mo,I p.cr,I p.le,I q.cl,I q.vi,Bo q.ho,Bo q.de,Bo q.mo,I q.cr,I q.le,I a,I b]
def R85:Spc:=fun args=>match args with
 | []=>some (True,.ret (.fn (.func 127) [] []))
 | _=>none
def R86:Spc:=fun args=>match args with
 | [.vs l n .none,.int .i64 i]=>some (l = z2m profL∧n = 120∧0 ≤ i∧i < 129600,.ret (.tup [.agg (z0a (z2i i.toNat).1),.agg (z0a (z2i i.toNat).2)]))
 | _=>none
structure Wit where
 p:Prf
 q:Prf
 a:Int
 b:Int
 f:Bool
 e:Int
def zWit:Wit:=⟨zPr,zPr,0,0,false,0⟩
def Wit.ret (w:Wit):CR:=.ret (.tup [.agg (z1r w.p w.q w.a w.b),Bo w.f,I w.e])
def y3y (x:Option (Prf × Prf)) (a b:Prf × Prf→Int):Wit:=match x with
 | some x=>⟨x.1,x.2,a x,b x,true,0⟩
 | none=>zWit
def y8k (e:Int):Wit:=⟨zPr,zPr,0,0,false,e⟩
def y26 (rs:List Rul) (x:Prf × Prf):Bool:=z01 (z2c rs x.1 x.2).1 (z2c rs x.1 x.2).2 == 3
def z3v (rs:List Rul):Wit:=if chk rs = 0 then y3y (csL.find? (y26 rs)) (fun x=>(z2c rs x.1 x.2).1) (fun x=>(z2c rs x.1 x.2).2) else y8k (chk rs)
noncomputable def Tryz.X85:WCx:=Tryz.B.wcx []
noncomputable def Tryz.X86:WCx:=Tryz.B.wcx []
theorem v85 (Q:CR→Prop):wpF Tryz.X85 85 [] Q =
 (Q (CR.ret (AV.fn (Fn.func 127) [] []))):=by kernel_rfl
theorem v86 (l:List AV) (i:Int) (Q:CR→Prop):wpF Tryz.X86 86 [.vs l 120 .none,I i] Q =
 (cIf (decide ((0:Int) ≤ IntKind.i64.wrap (i.tdiv (1080:Int)))) (cIf (decide ((IntKind.i64.wrap (i.tdiv (1080:Int))).toNat < 120)) (cIf (decide (840 = l.length)) (cIf (decide (7 ≤ (List.drop ((IntKind.i64.wrap (i.tdiv (1080:Int))).toNat * 7) l).length)) (cIf (like zP (el (List.drop ((IntKind.i64.wrap (i.tdiv (1080:Int))).toNat * 7) l) 0 7)) (cIf (decide ((0:Int) ≤ (IntKind.i64.wrap (i.tdiv (9:Int))).tmod (120:Int))) (cIf (decide (((IntKind.i64.wrap (i.tdiv (9:Int))).tmod (120:Int)).toNat < 120)) (cIf (decide (840 = l.length)) (cIf (decide (7 ≤ (List.drop (((IntKind.i64.wrap (i.tdiv (9:Int))).tmod (120:Int)).toNat * 7) l).length)) (cIf (like zP (el (List.drop (((IntKind.i64.wrap (i.tdiv (9:Int))).tmod (120:Int)).toNat * 7) l) 0 7)) (Q (CR.ret (AV.tup [AV.agg [I (cI (el (List.drop ((IntKind.i64.wrap (i.tdiv (1080:Int))).toNat * 7) l) 0 7) 0),I (cI (el (List.drop ((IntKind.i64.wrap (i.tdiv (1080:Int))).toNat * 7) l) 0 7) 1),Bo (cB (el (List.drop ((IntKind.i64.wrap (i.tdiv (1080:Int))).toNat * 7) l) 0 7) 2),Bo (cB (el (List.drop ((IntKind.i64.wrap (i.tdiv (1080:Int))).toNat * 7) l) 0 7) 3),Bo (cB (el (List.drop ((IntKind.i64.wrap (i.tdiv (1080:Int))).toNat * 7) l) 0 7) 4),I (IntKind.i64.wrap (((IntKind.i64.wrap (i.tdiv (3:Int))).tmod (3:Int)).tdiv (2:Int))),I (IntKind.i64.wrap ((i.tmod (3:Int)).tdiv (2:Int)))],AV.agg [I (cI (el (List.drop (((IntKind.i64.wrap (i.tdiv (9:Int))).tmod (120:Int)).toNat * 7) l) 0 7) 0),I (cI (el (List.drop (((IntKind.i64.wrap (i.tdiv (9:Int))).tmod (120:Int)).toNat * 7) l) 0 7) 1),Bo (cB (el (List.drop (((IntKind.i64.wrap (i.tdiv (9:Int))).tmod (120:Int)).toNat * 7) l) 0 7) 2),Bo (cB (el (List.drop (((IntKind.i64.wrap (i.tdiv (9:Int))).tmod (120:Int)).toNat * 7) l) 0 7) 3),Bo (cB (el (List.drop (((IntKind.i64.wrap (i.tdiv (9:Int))).tmod (120:Int)).toNat * 7) l) 0 7) 4),I (IntKind.i64.wrap ((IntKind.i64.wrap ((2:Int) - (IntKind.i64.wrap (i.tdiv (3:Int))).tmod (3:Int))).tdiv (2:Int))),I (IntKind.i64.wrap ((IntKind.i64.wrap ((2:Int) - i.tmod (3:Int))).tdiv (2:Int)))]]))) False) False) False) False) False) False) False) False) False) False):=by kernel_rfl
end Go.Proofs
set_option maxRecDepth 100000
set_option linter.unusedVariables false
namespace Go.Proofs
open Go Go.Ev
theorem w1r:Ct Tryz.B.c0 85 R85:=Ct.of_wp (l:=[]) (lm:=[]) (tp:=[]) (ct:=[]) (sm:=[]) Tryz.bok (Cts.nil _) ⟨_,_,Tryz.func85,rfl⟩ fun args D r hR hD=>by
 unfold R85 at hR
 split at hR <;> cases hR
 refine ⟨rfl,?_⟩
 show wpF Tryz.X85 85 [] _
 rw [v85]
theorem tdN (n k:Nat):((n:Int)).tdiv (k:Int) = ((n / k:Nat):Int):=rfl
theorem tmN (n k:Nat):((n:Int)).tmod (k:Int) = ((n % k:Nat):Int):=rfl
theorem wyI (c:Nat) (hc:c < 3):IntKind.i64.wrap (((c:Nat):Int).tdiv 2) = (wy c).1∧IntKind.i64.wrap ((IntKind.i64.wrap (2 - ((c:Nat):Int))).tdiv 2) = (wy c).2:=by
 match c,hc with
 | 0,_=>exact ⟨by kernel_rfl,by kernel_rfl⟩
 | 1,_=>exact ⟨by kernel_rfl,by kernel_rfl⟩
 | 2,_=>exact ⟨by kernel_rfl,by kernel_rfl⟩
theorem w86 {n:Nat} (hn:n < 129600) {Q:CR→Prop} (hQ:Q (.ret (.tup [.agg (z0a (z2i n).1),.agg (z0a (z2i n).2)]))):wpF Tryz.X86 86 [.vs (z2m profL) 120 .none,I n] Q:=by
 rw [v86]
 have e1:IntKind.i64.wrap ((n:Int).tdiv (1080:Int)) = ((n / 1080:Nat):Int):=by rw [show (1080:Int) = ((1080:Nat):Int) from rfl,tdN,z09 (by omega) (by omega)]
 have e2:(IntKind.i64.wrap ((n:Int).tdiv (9:Int))).tmod (120:Int) = ((n / 9 % 120:Nat):Int):=by rw [show (9:Int) = ((9:Nat):Int) from rfl,tdN,z09 (by omega) (by omega),show (120:Int) = ((120:Nat):Int) from rfl,tmN]
 have e3:(IntKind.i64.wrap ((n:Int).tdiv (3:Int))).tmod (3:Int) = ((n / 3 % 3:Nat):Int):=by rw [show (3:Int) = ((3:Nat):Int) from rfl,tdN,z09 (by omega) (by omega),tmN]
 have e4:(n:Int).tmod (3:Int) = ((n % 3:Nat):Int):=by rw [show (3:Int) = ((3:Nat):Int) from rfl,tmN]
 have h1:n / 1080 < 120:=by omega
 have h2:n / 9 % 120 < 120:=by omega
 rw [e1,e2,e3,e4,y4f (w7j h1),y4f (w7j h2),(wyI (n / 3 % 3) (by omega)).1,(wyI (n / 3 % 3) (by omega)).2,(wyI (n % 3) (by omega)).1,(wyI (n % 3) (by omega)).2]
 exact z0b (z0z _) (z0b (row_in h1) (z0b (decide_eq_true y2i) (z0b (decide_eq_true (y4g h1)) (z0b (y09 _) (z0b (z0z _) (z0b (row_in h2) (z0b (decide_eq_true y2i) (z0b (decide_eq_true (y4g h2)) (z0b (y09 _) hQ)))))))))
theorem v7t:Ct Tryz.B.c0 86 R86:=Ct.of_wp (l:=[]) (lm:=[]) (tp:=[]) (ct:=[]) (sm:=[]) Tryz.bok (Cts.nil _) ⟨_,_,Tryz.func86,rfl⟩ fun args D r hR hD=>by
 unfold R86 at hR
 split at hR <;> cases hR
 rename_i l n i
 obtain ⟨rfl,rfl,h1,h2⟩:=hD
 obtain ⟨m,rfl⟩:∃ m:Nat,i = m:=⟨i.toNat,by omega⟩
 refine ⟨by simp [noHL,noH,z5s],?_⟩
 rw [show z0e 0 [AV.vs (z2m profL) 120 .none,I m] = [AV.vs (z2m profL) 120 .none,I m] by simp [z0e,scrub,w7d,Tok.scrub]]
 exact w86 (by omega) rfl
theorem w8m:csL.length = 129600:=by simp [csL]
theorem v1o {i:Nat} (h:i < 129600):csL.drop i = z2i i :: csL.drop (i + 1):=by
 have h1:i < csL.length:=by rw [w8m]; exact h
 rw [List.drop_eq_getElem_cons h1]
 simp [csL]
section
attribute [local irreducible] wpC wpF
theorem y8m (rs:List Rul):(z05 rs).length = rs.length∧∀ x ∈ z05 rs,x < rs.length:=⟨y0a rs,fun x hx=>y46 rs x hx⟩
abbrev noY:Yk:=fun _ _ _ _=>False
end
section
attribute [local irreducible] csL z2i
variable {rs:List Rul} (hrs:z1j rs) {Q:CR→Prop}
include hrs
end
end Go.Proofs
set_option maxRecDepth 100000
set_option linter.unusedVariables false
-- elP
namespace Go.Proofs
open Go Go.Ev
def eqP (p q:Prf):Bool:=p.cl == q.cl && (p.vi == q.vi && (p.ho == q.ho && (p.de == q.de && (p.mo == q.mo && (p.cr == q.cr && (p.le == q.le && true))))))
def y4m (rs:List Rul) (x:Prf × Prf):Bool:=!(eqP x.1 x.2) && z01 (z2c rs x.1 x.2).1 (z2c rs x.1 x.2).2 == 0
def z6k (rs:List Rul):Wit:=if chk rs = 0 then y3y (csL.find? (y4m rs)) (fun _=>0) (fun _=>0) else y8k (chk rs)
end Go.Proofs
set_option maxRecDepth 100000
set_option linter.unusedVariables false
namespace Go.Proofs
open Go Go.Ev
section
attribute [local irreducible] wpC wpF
end
section
attribute [local irreducible] csL z2i
variable {rs:List Rul} (hrs:z1j rs) {Q:CR→Prop}
include hrs
end
end Go.Proofs
