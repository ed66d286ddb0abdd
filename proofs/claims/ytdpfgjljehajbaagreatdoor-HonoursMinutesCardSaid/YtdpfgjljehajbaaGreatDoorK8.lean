/- Contracts of functions of the program and of the reference. -/
import Derived.Test.YtdpfgjljehajbaaGreatDoorK2
set_option linter.unusedVariables false
set_option linter.unusedSimpArgs false
set_option maxRecDepth 100000
open Go.Ev.AV (vs ptr agg tup vp mp ofVal raw)
open Go.Ev.HB (cells map)
open Go.Ev.CR (ret)
open Go.IntKind (i64)
open List (drop replicate)
noncomputable section
namespace Go.Ev
end Go.Ev
namespace Go.Proofs
open Go Go.Ev
def R132:Spc:=fun args=>match args with
 | [.int .i64 n]=>some (True,rB (decide (1≤n) && decide (n≤1000000)))
 | _=>none
def x5z:List (Nat×List Nat):=[]
def X132:WCx:=qB.wcx [] x5z [] [] []
def w2o:List (Nat×List Nat):=[(3,[0,1,2,8,11,12,13]),(8,[0,8])]
def X64:WCx:=qB.wcx [] w2o [] [] [(3,0)]
theorem w1z (n:Int)(Q:CR→Prop):wpF X132 132 [I n] Q =
 (cIf (decide (n≥1)) (Q (ret (Bo (decide (n≤1000000))))) (Q (ret (Bo false)))):=by kernel_rfl
theorem v64 (l:List AV)(len:Nat)(st day:Int)(Q:CR→Prop):wpF X64 64 [.vs l len .none,I st,I day] Q =
 (cIf (noHL 0 ([vs l len .none,I st,I day,X,X,X,X,X,I (-1),X,X,vs l len .none,I len,I 0]++replicate 37 X)) (z0l X64 (cd X64.P 64 [1,1,0,1,0,0]) ([vs l len .none,I st,I day,X,X,X,X,X,I (-1),X,X,vs l len .none,I len,I 0]++replicate 37 X) (St.mk [] [] []) (z0g 0 (z0k X64 (cd X64.P 64 [1,1,1]) (z0q X64 64 Q)))) False):=by kernel_rfl
end Go.Proofs
namespace Go.Proofs
open Go Go.Ev
theorem x1j:Ct qB.c0 132 R132:=Ct.of_wp (lm:=x5z) bok (Cts.nil _) ⟨_,_,Tryz.func132,rfl⟩ fun args D r hR hD=>by
 unfold R132 at hR
 split at hR<;>cases hR
 refine ⟨rfl,(w1z _ _).mpr ?_⟩
 repeat' (refine z0i (fun h=>?_) (fun h=>?_))
 all_goals (apply y06; simp at *; omega)
section
variable {xs:List Tun}(hlen:xs.length≤1000){st day:Int}
include hlen
end
section
variable {xs:List Tun}(hlen:xs.length≤1000)(hok:∀ t∈xs,okU t)
include hlen hok
end
end Go.Proofs
namespace Go.Ev
def idB (n:Int):Bool:=decide (1≤n) && decide (n≤1000000)
def z4r (m:Mst):Bool:=idB m.id && (decide (-720≤m.zo) && decide (m.zo≤840))
def z7f (x:Dcr):Bool:=idB x.id && (decide (1≤x.ki) && decide (x.ki≤4)) && (decide (x.ma=0) || idB x.ma) && (if x.ki=1 then idB x.st else decide (x.st=0)) && (decide (1≤x.ra) && decide (x.ra≤99)) && (decide (0≤x.fr) && decide (x.fr≤100000)) && (decide (x.un=0) || decide (x.fr < x.un) && decide (x.un≤100000)) && (decide (0≤x.op) && decide (x.op < x.cl) && decide (x.cl≤1440))
def y0j (x:Dcr)(m:Mst)(day:Int):Bool:=(decide (x.ma=0) || decide (x.ma=m.id)) && decide (x.fr≤day) && (decide (x.un=0) || decide (day < x.un))
def y18 (x:Dcr)(of:Int):Bool:=decide (x.op≤of) && decide (of < x.cl)
end Go.Ev
namespace Go.Proofs
open Go Go.Ev
def R95:Spc:=fun args=>match args with
 | [.agg [.int .i64 id,.int .u8 ki,.int .i64 ma,.int .i64 st,.int .i64 ra,.int .i64 fr,.int .i64 un,.int .i64 op,.int .i64 cl]]=>some (True,rB (z7f ⟨id,ki,ma,st,ra,fr,un,op,cl⟩))
 | _=>none
def R111:Spc:=fun args=>match args with
 | [.agg [.int .i64 id,.int .i64 zo]]=>some (True,rB (z4r ⟨id,zo⟩))
 | _=>none
def R116:Spc:=fun args=>match args with
 | [.agg [.int .i64 id,.int .u8 ki,.int .i64 ma,.int .i64 st,.int .i64 ra,.int .i64 fr,.int .i64 un,.int .i64 op,.int .i64 cl],.agg [.int .i64 mi,.int .i64 zo],.int .i64 day]=>some (True,rB (y0j ⟨id,ki,ma,st,ra,fr,un,op,cl⟩ ⟨mi,zo⟩ day))
 | _=>none
def R117:Spc:=fun args=>match args with
 | [.agg [.int .i64 id,.int .u8 ki,.int .i64 ma,.int .i64 st,.int .i64 ra,.int .i64 fr,.int .i64 un,.int .i64 op,.int .i64 cl],.int .i64 of]=>some (True,rB (y18 ⟨id,ki,ma,st,ra,fr,un,op,cl⟩ of))
 | _=>none
def R113:Spc:=fun args=>match args with
 | [.agg [.int .i64 id,.int .u8 ki,.int .i64 ma,.int .i64 st,.int .i64 ra,.int .i64 fr,.int .i64 un,.int .i64 op,.int .i64 cl],.vp [.int .i64 jd,.int .u8 _,.int .i64 _,.int .i64 _,.int .i64 _,.int .i64 _,.int .i64 _,.int .i64 _,.int .i64 _]]=>some (True,rB (decide (id=jd)))
 | _=>none
def x8p:List (Nat×List Nat):=[(4,[1,3])]
def X95:WCx:=qB.wcx [(132,R132)] x8p [] [4] []
def x58:List (Nat×List Nat):=[]
def X111:WCx:=qB.wcx [(132,R132),(120,R120)] x58 [] [] []
def x52:List (Nat×List Nat):=[]
def X116:WCx:=qB.wcx [] x52 [] [] []
def x51:List (Nat×List Nat):=[]
def X117:WCx:=qB.wcx [] x51 [] [] []
def x56:List (Nat×List Nat):=[]
def X113:WCx:=qB.wcx [] x56 [] [] []
theorem v95 (id ki ma st ra fr un op cl:Int)(Q:CR→Prop):wpF X95 95 [.agg [I id,U ki,I ma,I st,I ra,I fr,I un,I op,I cl]] Q =
 (cIf (ki == 1) (True∧z2z X95 (cd X95.P 95 [1,1,1]) ([X,ptr 0 0,X,Bo (decide ((1:Int)≤st) && decide (st≤1000000))]++replicate 89 X) (St.mk [some (cells [I id,U ki,I ma,I st,I ra,I fr,I un,I op,I cl] 46)] [] []) (z0q X95 95 Q)) (z2z X95 (cd X95.P 95 [1,1,1]) ([X,ptr 0 0,X,Bo (st == 0)]++replicate 89 X) (St.mk [some (cells [I id,U ki,I ma,I st,I ra,I fr,I un,I op,I cl] 46)] [] []) (z0q X95 95 Q))):=by kernel_rfl
theorem x5 (id ki ma st ra fr un op cl:Int)(b:Bool)(Q:CR→Prop):wpC X95 (cd PP 95 [1,1,1]) ([X,.ptr 0 0,X,Bo b]++replicate 89 X) ⟨[some (.cells [I id,U ki,I ma,I st,I ra,I fr,I un,I op,I cl] 46)],[],[]⟩ (z0q X95 95 Q) =
 (True∧cIf (decide ((1:Int)≤id) && decide (id≤1000000)) (cIf (decide (ki≥1)) (cIf (decide (ki≤4)) (cIf (ma == 0) (cIf b (cIf (decide (ra≥1)) (cIf (decide (ra≤99)) (cIf (decide (fr≥0)) (cIf (decide (fr≤100000)) (cIf (un == 0) (cIf (decide (op≥0)) (cIf (decide (op < cl)) (Q (ret (Bo (decide (cl≤1440))))) (Q (ret (Bo false)))) (Q (ret (Bo false)))) (cIf (decide (un > fr)) (cIf (decide (un≤100000)) (cIf (decide (op≥0)) (cIf (decide (op < cl)) (Q (ret (Bo (decide (cl≤1440))))) (Q (ret (Bo false)))) (Q (ret (Bo false)))) (Q (ret (Bo false)))) (Q (ret (Bo false))))) (Q (ret (Bo false)))) (Q (ret (Bo false)))) (Q (ret (Bo false)))) (Q (ret (Bo false)))) (Q (ret (Bo false)))) (True∧cIf (decide ((1:Int)≤ma) && decide (ma≤1000000)) (cIf b (cIf (decide (ra≥1)) (cIf (decide (ra≤99)) (cIf (decide (fr≥0)) (cIf (decide (fr≤100000)) (cIf (un == 0) (cIf (decide (op≥0)) (cIf (decide (op < cl)) (Q (ret (Bo (decide (cl≤1440))))) (Q (ret (Bo false)))) (Q (ret (Bo false)))) (cIf (decide (un > fr)) (cIf (decide (un≤100000)) (cIf (decide (op≥0)) (cIf (decide (op < cl)) (Q (ret (Bo (decide (cl≤1440))))) (Q (ret (Bo false)))) (Q (ret (Bo false)))) (Q (ret (Bo false)))) (Q (ret (Bo false))))) (Q (ret (Bo false)))) (Q (ret (Bo false)))) (Q (ret (Bo false)))) (Q (ret (Bo false)))) (Q (ret (Bo false)))) (Q (ret (Bo false))))) (Q (ret (Bo false)))) (Q (ret (Bo false)))) (Q (ret (Bo false)))):=by kernel_rfl
theorem w2a (id zo:Int)(Q:CR→Prop):wpF X111 111 [.agg [I id,I zo]] Q =
 (True∧cIf (decide ((1:Int)≤id) && decide (id≤1000000)) (True∧Q (ret (Bo (decide ((-720:Int)≤zo) && decide (zo≤840))))) (Q (ret (Bo false)))):=by kernel_rfl
theorem w14 (id ki ma st ra fr un op cl mi zo day:Int)(Q:CR→Prop):wpF X116 116 [.agg [I id,U ki,I ma,I st,I ra,I fr,I un,I op,I cl],.agg [I mi,I zo],I day] Q =
 (cIf (ma == 0) (cIf (decide (fr≤day)) (cIf (un == 0) (Q (ret (Bo true))) (Q (ret (Bo (decide (day < un)))))) (Q (ret (Bo false)))) (cIf (ma == mi) (cIf (decide (fr≤day)) (cIf (un == 0) (Q (ret (Bo true))) (Q (ret (Bo (decide (day < un)))))) (Q (ret (Bo false)))) (Q (ret (Bo false))))):=by kernel_rfl
theorem v117 (id ki ma st ra fr un op cl of:Int)(Q:CR→Prop):wpF X117 117 [.agg [I id,U ki,I ma,I st,I ra,I fr,I un,I op,I cl],I of] Q =
 (cIf (decide (op≤of)) (Q (ret (Bo (decide (of < cl))))) (Q (ret (Bo false)))):=by kernel_rfl
theorem w18 (id ki ma st ra fr un op cl jd j1 j2 j3 j4 j5 j6 j7 j8:Int)(Q:CR→Prop):wpF X113 113 [.agg [I id,U ki,I ma,I st,I ra,I fr,I un,I op,I cl],.vp [I jd,U j1,I j2,I j3,I j4,I j5,I j6,I j7,I j8]] Q =
 (Q (ret (AV.bool (id == cI [I jd,U j1,I j2,I j3,I j4,I j5,I j6,I j7,I j8] 0)))):=by kernel_rfl
end Go.Proofs
namespace Go.Ev
theorem z8z (c a b v:Bool):cIf c (ret (Bo a)=rB v) (ret (Bo b)=rB v)=(ret (Bo (if c then a else b))=rB v):=by cases c<;>rfl
end Go.Ev
namespace Go.Proofs
open Go Go.Ev
attribute [local irreducible] wpF wpC cd
theorem x6a {c:Code}{env:Env}{S:St}{k:Kont}(h:wpC X95 c env S k):z2z X95 c env S k:=y7a bok ((Cts.nil _).cons x1j) h
theorem y9a:Ct qB.c0 95 R95:=Ct.of_wp (l:=[(132,R132)]) (lm:=x8p) (tp:=[]) (ct:=[4]) (sm:=[]) bok ((Cts.nil _).cons x1j) ⟨_,_,Tryz.func95,rfl⟩ fun args D r hR hD=>by
 unfold R95 at hR
 split at hR<;>cases hR
 rename_i id ki ma st ra fr un op cl
 refine ⟨rfl,?_⟩
 simp only[z0e,scrub]
 show wpF X95 95 _ _
 rw[v95]
 refine z0i (fun h=>⟨trivial,x6a ((x5 id ki ma st ra fr un op cl _ _).mpr ?_)⟩) (fun h=>x6a ((x5 id ki ma st ra fr un op cl _ _).mpr ?_))
 all_goals
  simp only[z8z,true_and]
  refine congrArg (fun b=>ret (Bo b)) ?_
  rw[Bool.eq_iff_iff]
  simp at h
  by_cases h1:ma=0<;>by_cases h2:un=0<;>simp[z7f,idB,h,h1,h2]<;>omega
theorem y5n:Ct qB.c0 111 R111:=Ct.of_wp (l:=[(132,R132),(120,R120)]) (lm:=x58) (tp:=[]) (ct:=[]) (sm:=[]) bok (((Cts.nil _).cons x9v).cons x1j) ⟨_,_,Tryz.func111,rfl⟩ fun args D r hR hD=>by
 unfold R111 at hR
 split at hR<;>cases hR
 rename_i id zo
 refine ⟨rfl,?_⟩
 simp only[z0e,scrub]
 show wpF X111 111 _ _
 rw[w2a]
 simp only[z8z,true_and]
 refine congrArg (fun b=>ret (Bo b)) ?_
 rw[Bool.eq_iff_iff]
 simp[z4r,idB]
theorem x1l:Ct qB.c0 116 R116:=Ct.of_wp (l:=[]) (lm:=x52) (tp:=[]) (ct:=[]) (sm:=[]) bok (Cts.nil _) ⟨_,_,Tryz.func116,rfl⟩ fun args D r hR hD=>by
 unfold R116 at hR
 split at hR<;>cases hR
 rename_i id ki ma st ra fr un op cl mi zo day
 refine ⟨rfl,?_⟩
 simp only[z0e,scrub]
 show wpF X116 116 _ _
 rw[w14]
 simp only[z8z,true_and]
 refine congrArg (fun b=>ret (Bo b)) ?_
 rw[Bool.eq_iff_iff]
 by_cases h1:ma=0<;>by_cases h2:un=0<;>by_cases h3:ma=mi<;>simp[y0j,h1,h2,h3]<;>omega
theorem x6d:Ct qB.c0 117 R117:=Ct.of_wp (l:=[]) (lm:=x51) (tp:=[]) (ct:=[]) (sm:=[]) bok (Cts.nil _) ⟨_,_,Tryz.func117,rfl⟩ fun args D r hR hD=>by
 unfold R117 at hR
 split at hR<;>cases hR
 rename_i id ki ma st ra fr un op cl of
 refine ⟨rfl,?_⟩
 simp only[z0e,scrub]
 show wpF X117 117 _ _
 rw[v117]
 simp only[z8z,true_and]
 refine congrArg (fun b=>ret (Bo b)) ?_
 rw[Bool.eq_iff_iff]
 simp[y18]
end Go.Proofs
