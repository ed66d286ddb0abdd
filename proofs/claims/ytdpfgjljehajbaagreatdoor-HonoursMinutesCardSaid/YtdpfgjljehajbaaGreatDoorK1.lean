/- Contracts of functions of the program and of the reference. -/
import Derived.Test.YtdpfgjljehajbaaGreatDoorAlZ
set_option linter.unusedVariables false
set_option linter.unusedSimpArgs false
set_option maxRecDepth 100000
open Go.Ev.AV (vs ptr agg tup vp mp ofVal raw)
open Go.Ev.HB (cells map)
open Go.Ev.CR (ret)
open Go.IntKind (i64)
open List (drop replicate)
noncomputable section
namespace Go.Ev
abbrev I (n:Int):AV:=.int .i64 n
abbrev U (n:Int):AV:=.int .u8 n
abbrev Bo (b:Bool):AV:=.bool b
abbrev X:AV:=.bad
abbrev rI (n:Int):CR:=.ret (.int .i64 n)
abbrev rB (b:Bool):CR:=.ret (.bool b)
end Go.Ev
namespace Go.Proofs
open Go Go.Ev
def qB:Base:={ P:=Tryz.prog,gt:=Tryz.gt,eqt:=[29,46,58,77],nat:=z9x 222 244 218,hw:=fun _=>none }
theorem gtpB:z1v qB.c0:=by
 intro g l h
 simp only[qB,Base.c0,Tryz.gt]at h
 split at h<;>cases h<;>exact ⟨by kernel_rfl,by kernel_rfl⟩
theorem bok:BaseOk qB where
 eqt:=fun t h=>by
  simp only[qB,List.contains_cons,List.contains_nil,Bool.or_false,Bool.or_eq_true,beq_iff_eq]at h
  rcases h with rfl | rfl | rfl | rfl<;>kernel_rfl
 codes:=Tryz.c0ok.codes
 nat:=Tryz.c0ok.nat
 mixed:=Tryz.c0ok.mixed
 names:=Tryz.c0ok.names
 gtp:=gtpB
 hw:=fun g W h=>by cases h
end Go.Proofs
namespace Go.Proofs
open Go Go.Ev
def R26:Spc:=fun args=>match args with
 | []=>some (True,rB true)
 | _=>none
noncomputable abbrev PP:=Tryz.prog
def X0:WCx:=qB.wcx []
def w2p:List (Nat×List Nat):=[(3,[0,1])]
def X36:WCx:=qB.wcx [] w2p [] [3]
theorem v36 (c v:Int)(m:Bool)(Q:CR→Prop):wpF X36 36 [I c,I v,Bo m] Q =
 (cIf (decide (c < 1)) (Q (ret (I 0))) (cIf (decide (c≥5)) (Q (ret (I 0))) (cIf m (Q (ret (I 0))) (z2z X36 (cd X36.P 36 [1,1]) ([I c,I v]++replicate 24 X) (St.mk [] [] []) (z0q X36 36 Q))))):=by kernel_rfl
theorem v37 (c v:Int)(m:Bool)(Q:CR→Prop):wpF X0 37 [I c,I v,Bo m] Q =
 (cIf (decide (c < 1)) (Q (ret (I 0))) (cIf (decide (c > 4)) (Q (ret (I 0))) (cIf m (Q (ret (I 0))) (cIf (decide (c < 4)) (cIf (v == 1) (Q (ret (AV.int IntKind.i64 (if (21:Int) < IntKind.i64.wrap (IntKind.i64.wrap (23-IntKind.i64.wrap (2*c))+2) then 21 else IntKind.i64.wrap (IntKind.i64.wrap (23-IntKind.i64.wrap (2*c))+2))))) (Q (ret (I (IntKind.i64.wrap (23-IntKind.i64.wrap (2*c))))))) (cIf (v == 1) (Q (ret (I 15))) (Q (ret (I 13)))))))):=by kernel_rfl
end Go.Proofs
namespace Go.Ev
theorem y06 {a b:Bool}(h:a=true↔b=true):rB a=rB b:=by
 have:a=b:=Bool.eq_iff_iff.2 h
 rw[this]
end Go.Ev
namespace Go.Proofs
open Go Go.Ev
theorem w21:Ct qB.c0 26 R26 where
 body:=⟨_,_,Tryz.func26,rfl⟩
 ok:=fun args D r hR hD=>by
  unfold R26 at hR
  split at hR<;>cases hR
  exact ⟨rfl,fun G w us h1 h2 h3=>Tryz.aliveOk G w us h1 h2 h3⟩
end Go.Proofs
