/- Contracts of functions of the program and of the reference. -/
import Derived.Test.YtdpfgjljehajbaaGreatDoorE5
import Derived.Test.YtdpfgjljehajbaaGreatDoorHk
import Derived.Test.YtdpfgjljehajbaaGreatDoorAlZ
set_option linter.unusedVariables false
set_option linter.unusedSimpArgs false
set_option linter.unusedVariables false
set_option maxRecDepth 100000
namespace Go.Ev
abbrev I (n:Int):AV:=.int .i64 n
abbrev U (n:Int):AV:=.int .u8 n
abbrev Bo (b:Bool):AV:=.bool b
abbrev X:AV:=.bad
abbrev rI (n:Int):CR:=.ret (.int .i64 n)
abbrev rB (b:Bool):CR:=.ret (.bool b)
end Go.Ev
namespace Go.Proofs
open Go Go.Ev
noncomputable def Tryz.B:Base:={ P:=Tryz.prog,gt:=Tryz.gt,eqt:=[29,46,58,77],nat:=z9x 222 244 218,hw:=fun _=>none }
theorem Tryz.gtpB:z1v Tryz.B.c0:=by
 intro g l h
 simp only [Tryz.B,Base.c0,Tryz.gt] at h
 split at h <;> cases h <;> exact ⟨by kernel_rfl,by kernel_rfl⟩
theorem Tryz.bok:BaseOk Tryz.B where
 eqt:=fun t h=>by
  simp only [Tryz.B,List.contains_cons,List.contains_nil,Bool.or_false,Bool.or_eq_true,beq_iff_eq] at h
  rcases h with rfl | rfl | rfl | rfl <;> kernel_rfl
 codes:=Tryz.c0ok.codes
 nat:=Tryz.c0ok.nat
 mixed:=Tryz.c0ok.mixed
 names:=Tryz.c0ok.names
 gtp:=Tryz.gtpB
 hw:=fun g W h=>by cases h
end Go.Proofs
set_option maxRecDepth 100000
set_option linter.unusedVariables false
namespace Go.Proofs
open Go Go.Ev
def R26:Spc:=fun args=>match args with
 | []=>some (True,rB true)
 | _=>none
noncomputable abbrev PP:=Tryz.prog
noncomputable def Tryz.X0:WCx:=Tryz.B.wcx []
def w2p:List (Nat × List Nat):=[(3,[0,1])]
noncomputable def Tryz.X36:WCx:=Tryz.B.wcx [] w2p [] [3]
theorem v36 (c v:Int) (m:Bool) (Q:CR→Prop):wpF Tryz.X36 36 [I c,I v,Bo m] Q =
 (cIf (decide (c < (1:Int))) (Q (CR.ret (I 0))) (cIf (decide (c ≥ (5:Int))) (Q (CR.ret (I 0))) (cIf m (Q (CR.ret (I 0))) (z2z Tryz.X36 (cd Tryz.X36.P 36 [1,1]) ([I c,I v]++List.replicate 24 X) (St.mk [] [] []) (z0q Tryz.X36 36 Q))))):=by kernel_rfl
theorem v37 (c v:Int) (m:Bool) (Q:CR→Prop):wpF Tryz.X0 37 [I c,I v,Bo m] Q =
 (cIf (decide (c < (1:Int))) (Q (CR.ret (I 0))) (cIf (decide (c > (4:Int))) (Q (CR.ret (I 0))) (cIf m (Q (CR.ret (I 0))) (cIf (decide (c < (4:Int))) (cIf (v == (1:Int)) (Q (CR.ret (AV.int IntKind.i64 (if (21:Int) < IntKind.i64.wrap (IntKind.i64.wrap ((23:Int) - IntKind.i64.wrap ((2:Int) * c)) + (2:Int)) then (21:Int) else IntKind.i64.wrap (IntKind.i64.wrap ((23:Int) - IntKind.i64.wrap ((2:Int) * c)) + (2:Int)))))) (Q (CR.ret (I (IntKind.i64.wrap ((23:Int) - IntKind.i64.wrap ((2:Int) * c))))))) (cIf (v == (1:Int)) (Q (CR.ret (I 15))) (Q (CR.ret (I 13)))))))):=by kernel_rfl
end Go.Proofs
set_option maxRecDepth 100000
set_option linter.unusedVariables false
namespace Go.Ev
theorem y06 {a b:Bool} (h:a = true ↔ b = true):rB a = rB b:=by
 have:a = b:=Bool.eq_iff_iff.2 h
 rw [this]
end Go.Ev
namespace Go.Proofs
open Go Go.Ev
theorem w21:Ct Tryz.B.c0 26 R26 where
 body:=⟨_,_,Tryz.func26,rfl⟩
 ok:=fun args D r hR hD=>by
  unfold R26 at hR
  split at hR <;> cases hR
  exact ⟨rfl,fun G w us h1 h2 h3=>Tryz.aliveOk G w us h1 h2 h3⟩
end Go.Proofs
