/- Contracts of functions of the program and of the reference. -/
import Derived.Test.YtdpfgjljehajbaaGreatDoorKA
set_option linter.unusedVariables false
set_option linter.unusedSimpArgs false
set_option linter.unusedSectionVars false
set_option maxRecDepth 100000
open Go.Ev.AV (vs ptr agg tup vp mp ofVal raw)
open Go.Ev.HB (cells map)
open Go.Ev.CR (ret)
open Go.IntKind (i64)
open List (drop replicate)
noncomputable section
namespace Go.Proofs
open Go Go.Ev
def R207:Spc:=fun args=>match args with
 | [.vs [.int .u8 a,.int .u8 b] 2 .none,.int .u8 x]=>some (True,rI (if a=x then 0 else if b=x then 1 else -1))
 | _=>none
def R178:Spc:=fun args=>match args with
 | [.vs [.int .u8 a,.int .u8 b] 2 .none,.int .u8 x]=>some (True,rB (decide (x=a) || decide (x=b)))
 | _=>none
def R177:Spc:=fun args=>match args with
 | [.vs [.int .u8 k1,.int .u8 k2] 2 .none,.vp [.vs l n .none,.vs c k .none],.vp [.int .i64 id,.int .i64 zo],.vp [.int .i64 day],.vp [.int .i64 of]]=>some (∃ ms ds,l=z0a z0d ms∧n=ms.length∧c=z0a z0b ds∧k=ds.length∧ms.length≤10000000∧ds.length≤10000000,rI (z0m (z0j c) ⟨id,zo⟩ day of k1 k2))
 | _=>none
def x5n:List (Nat×List Nat):=[(2,[0,1,7,8]),(7,[])]
def X207:WCx:=qB.wcx [] x5n [] [] []
def x5o:List (Nat×List Nat):=[]
def X178:WCx:=qB.wcx [(207,R207)] x5o [] [] []
def x5p:List (Nat×List Nat):=[(3,[0,1,2,3,4,7,11,12,13]),(8,[7])]
def X177:WCx:=qB.wcx [(178,R178),(116,R116),(117,R117)] x5p [] [] [(3,0)]
theorem x74 (a b x:Int)(Q:CR→Prop):wpC X207 (cd PP 207 [1,0,1,0,0]) ([.vs [U a,U b] 2 .none,U x,X,X,X,X,X,I 2,I 1]++replicate 10 X) ⟨[],[],[]⟩ (z1i X207 (cd PP 207 [1,0,1,0,0]) (z0g 0 (z0k X207 (cd PP 207 [1,1]) (z0q X207 207 Q)))) =
 (cIf (x == b) (Q (ret (I 1))) (z0l X207 (cd PP 207 [1,0,1,0,0]) ([vs [U a,U b] 2 .none,U x,X,X,X,X,X,I 2,I 2]++replicate 10 X) (St.mk [] [] []) (z0g 0 (z0k X207 (cd PP 207 [1,1]) (z0q X207 207 Q))))):=by kernel_rfl
theorem x73 (a b x:Int)(Q:CR→Prop):wpC X207 (cd PP 207 [1,0,1,0,0]) ([.vs [U a,U b] 2 .none,U x,X,X,X,X,X,I 2,I 2]++replicate 10 X) ⟨[],[],[]⟩ (z1i X207 (cd PP 207 [1,0,1,0,0]) (z0g 0 (z0k X207 (cd PP 207 [1,1]) (z0q X207 207 Q)))) =
 (Q (ret (I (-1)))):=by kernel_rfl
theorem w1q (a b x:Int)(Q:CR→Prop):wpF X207 207 [.vs [U a,U b] 2 .none,U x] Q =
 (z0l X207 (cd X207.P 207 [1,0,1,0,0]) ([vs [U a,U b] 2 .none,U x,X,X,X,X,X,I 2,I 0]++replicate 10 X) (St.mk [] [] []) (z0g 0 (z0k X207 (cd X207.P 207 [1,1]) (z0q X207 207 Q)))):=by kernel_rfl
theorem w0l (a b x:Int)(Q:CR→Prop):wpC X207 (cd PP 207 [1,0,1,0,0]) ([.vs [U a,U b] 2 .none,U x,X,X,X,X,X,I 2,I 0]++replicate 10 X) ⟨[],[],[]⟩ (z1i X207 (cd PP 207 [1,0,1,0,0]) (z0g 0 (z0k X207 (cd PP 207 [1,1]) (z0q X207 207 Q)))) =
 (cIf (x == a) (Q (ret (I 0))) (z0l X207 (cd PP 207 [1,0,1,0,0]) ([vs [U a,U b] 2 .none,U x,X,X,X,X,X,I 2,I 1]++replicate 10 X) (St.mk [] [] []) (z0g 0 (z0k X207 (cd PP 207 [1,1]) (z0q X207 207 Q))))):=by kernel_rfl
theorem w1r (a b x:Int)(Q:CR→Prop):wpF X178 178 [.vs [U a,U b] 2 .none,U x] Q =
 (True∧Q (ret (Bo (decide ((if a=x then 0 else if b=x then 1 else (-1:Int))≥0))))):=by kernel_rfl
theorem w1s (l c:List AV)(n k:Nat)(k1 k2 id zo day of:Int)(Q:CR→Prop):wpF X177 177 [.vs [U k1,U k2] 2 .none,.vp [.vs l n .none,.vs c k .none],.vp [I id,I zo],.vp [I day],.vp [I of]] Q =
 (cIf (noHL 0 ([vs [U k1,U k2] 2 .none,vp [vs l n .none,vs c k .none],vp [I id,I zo],vp [I day],vp [I of],X,X,I (-1),X,X,X,vs c k .none,I k,I 0]++replicate 37 X)) (z0l X177 (cd X177.P 177 [1,1,0,1,0,0]) ([vs [U k1,U k2] 2 .none,vp [vs l n .none,vs c k .none],vp [I id,I zo],vp [I day],vp [I of],X,X,I (-1),X,X,X,vs c k .none,I k,I 0]++replicate 37 X) (St.mk [] [] []) (z0g 0 (z0k X177 (cd X177.P 177 [1,1,1]) (z0q X177 177 Q)))) False):=by kernel_rfl
theorem x5f (l c:List AV)(n k i:Nat)(k1 k2 id zo day of best:Int)(Q:CR→Prop):wpC X177 (cd PP 177 [1,1,0,1,0,0]) ([.vs [U k1,U k2] 2 .none,.vp [.vs l n .none,.vs c k .none],.vp [I id,I zo],.vp [I day],.vp [I of],X,X,I best,X,X,X,.vs c k .none,I k,I i]++replicate 37 X) ⟨[],[],[]⟩ (z1i X177 (cd PP 177 [1,1,0,1,0,0]) (z0g 0 (z0k X177 (cd PP 177 [1,1,1]) (z0q X177 177 Q)))) =
 (cIf (decide ((↑i:Int) < (↑k:Int))) (cIf (decide (i < k)) (cIf (decide (k*9=c.length)) (cIf (decide (9≤(drop (i*9) c).length)) (cIf (like [I 0,U 0,I 0,I 0,I 0,I 0,I 0,I 0,I 0] (el (drop (i*9) c) 0 9)) (True∧St.mk [some (cells [I (cI (el (drop (i*9) c) 0 9) 0),U (cI (el (drop (i*9) c) 0 9) 1),I (cI (el (drop (i*9) c) 0 9) 2),I (cI (el (drop (i*9) c) 0 9) 3),I (cI (el (drop (i*9) c) 0 9) 4),I (cI (el (drop (i*9) c) 0 9) 5),I (cI (el (drop (i*9) c) 0 9) 6),I (cI (el (drop (i*9) c) 0 9) 7),I (cI (el (drop (i*9) c) 0 9) 8)] 46)] [] [0]=St.mk [some (cells [I (cI (el (drop (i*9) c) 0 9) 0),U (cI (el (drop (i*9) c) 0 9) 1),I (cI (el (drop (i*9) c) 0 9) 2),I (cI (el (drop (i*9) c) 0 9) 3),I (cI (el (drop (i*9) c) 0 9) 4),I (cI (el (drop (i*9) c) 0 9) 5),I (cI (el (drop (i*9) c) 0 9) 6),I (cI (el (drop (i*9) c) 0 9) 7),I (cI (el (drop (i*9) c) 0 9) 8)] 46)] [] [0]∧cIf (decide (cI (el (drop (i*9) c) 0 9) 1=k1) || decide (cI (el (drop (i*9) c) 0 9) 1=k2)) (True∧St.mk [some (cells [I (cI (el (drop (i*9) c) 0 9) 0),U (cI (el (drop (i*9) c) 0 9) 1),I (cI (el (drop (i*9) c) 0 9) 2),I (cI (el (drop (i*9) c) 0 9) 3),I (cI (el (drop (i*9) c) 0 9) 4),I (cI (el (drop (i*9) c) 0 9) 5),I (cI (el (drop (i*9) c) 0 9) 6),I (cI (el (drop (i*9) c) 0 9) 7),I (cI (el (drop (i*9) c) 0 9) 8)] 46)] [] [0]=St.mk [some (cells [I (cI (el (drop (i*9) c) 0 9) 0),U (cI (el (drop (i*9) c) 0 9) 1),I (cI (el (drop (i*9) c) 0 9) 2),I (cI (el (drop (i*9) c) 0 9) 3),I (cI (el (drop (i*9) c) 0 9) 4),I (cI (el (drop (i*9) c) 0 9) 5),I (cI (el (drop (i*9) c) 0 9) 6),I (cI (el (drop (i*9) c) 0 9) 7),I (cI (el (drop (i*9) c) 0 9) 8)] 46)] [] [0]∧cIf (y0j (Dcr.mk (cI (el (drop (i*9) c) 0 9) 0) (cI (el (drop (i*9) c) 0 9) 1) (cI (el (drop (i*9) c) 0 9) 2) (cI (el (drop (i*9) c) 0 9) 3) (cI (el (drop (i*9) c) 0 9) 4) (cI (el (drop (i*9) c) 0 9) 5) (cI (el (drop (i*9) c) 0 9) 6) (cI (el (drop (i*9) c) 0 9) 7) (cI (el (drop (i*9) c) 0 9) 8)) (Mst.mk id zo) day) (True∧St.mk [some (cells [I (cI (el (drop (i*9) c) 0 9) 0),U (cI (el (drop (i*9) c) 0 9) 1),I (cI (el (drop (i*9) c) 0 9) 2),I (cI (el (drop (i*9) c) 0 9) 3),I (cI (el (drop (i*9) c) 0 9) 4),I (cI (el (drop (i*9) c) 0 9) 5),I (cI (el (drop (i*9) c) 0 9) 6),I (cI (el (drop (i*9) c) 0 9) 7),I (cI (el (drop (i*9) c) 0 9) 8)] 46)] [] [0]=St.mk [some (cells [I (cI (el (drop (i*9) c) 0 9) 0),U (cI (el (drop (i*9) c) 0 9) 1),I (cI (el (drop (i*9) c) 0 9) 2),I (cI (el (drop (i*9) c) 0 9) 3),I (cI (el (drop (i*9) c) 0 9) 4),I (cI (el (drop (i*9) c) 0 9) 5),I (cI (el (drop (i*9) c) 0 9) 6),I (cI (el (drop (i*9) c) 0 9) 7),I (cI (el (drop (i*9) c) 0 9) 8)] 46)] [] [0]∧cIf (y18 (Dcr.mk (cI (el (drop (i*9) c) 0 9) 0) (cI (el (drop (i*9) c) 0 9) 1) (cI (el (drop (i*9) c) 0 9) 2) (cI (el (drop (i*9) c) 0 9) 3) (cI (el (drop (i*9) c) 0 9) 4) (cI (el (drop (i*9) c) 0 9) 5) (cI (el (drop (i*9) c) 0 9) 6) (cI (el (drop (i*9) c) 0 9) 7) (cI (el (drop (i*9) c) 0 9) 8)) of) (cIf (decide (best < 0)) (cIf (noHL 0 ([vs [U k1,U k2] 2 .none,vp [vs l n .none,vs c k .none],vp [I id,I zo],vp [I day],vp [I of],X,X,I i,X,X,X,vs c k .none,I k,I (IntKind.i64.wrap ((↑i:Int)+1))]++replicate 37 X)) (z0l X177 (cd PP 177 [1,1,0,1,0,0]) ([vs [U k1,U k2] 2 .none,vp [vs l n .none,vs c k .none],vp [I id,I zo],vp [I day],vp [I of],X,X,I i,X,X,X,vs c k .none,I k,I (IntKind.i64.wrap ((↑i:Int)+1))]++replicate 37 X) (St.mk [] [] []) (z0g 0 (z0k X177 (cd PP 177 [1,1,1]) (z0q X177 177 Q)))) False) (cIf (decide ((0:Int)≤best)) (cIf (decide (best.toNat < k)) (cIf (decide (k*9=c.length)) (cIf (decide (0 < (drop 4 (drop (best.toNat*9) c)).length)) (cIf (z0t (ofVal (Value.int IntKind.i64 0)) ((drop 4 (drop (best.toNat*9) c)).getD 0 X)) (cIf (decide (cI (el (drop (i*9) c) 0 9) 4≥cI (drop 4 (drop (best.toNat*9) c)) 0)) (cIf (noHL 0 ([vs [U k1,U k2] 2 .none,vp [vs l n .none,vs c k .none],vp [I id,I zo],vp [I day],vp [I of],X,X,I i,X,X,X,vs c k .none,I k,I (IntKind.i64.wrap ((↑i:Int)+1))]++replicate 37 X)) (z0l X177 (cd PP 177 [1,1,0,1,0,0]) ([vs [U k1,U k2] 2 .none,vp [vs l n .none,vs c k .none],vp [I id,I zo],vp [I day],vp [I of],X,X,I i,X,X,X,vs c k .none,I k,I (IntKind.i64.wrap ((↑i:Int)+1))]++replicate 37 X) (St.mk [] [] []) (z0g 0 (z0k X177 (cd PP 177 [1,1,1]) (z0q X177 177 Q)))) False) (cIf (noHL 0 ([vs [U k1,U k2] 2 .none,vp [vs l n .none,vs c k .none],vp [I id,I zo],vp [I day],vp [I of],X,X,I best,X,X,X,vs c k .none,I k,I (IntKind.i64.wrap ((↑i:Int)+1))]++replicate 37 X)) (z0l X177 (cd PP 177 [1,1,0,1,0,0]) ([vs [U k1,U k2] 2 .none,vp [vs l n .none,vs c k .none],vp [I id,I zo],vp [I day],vp [I of],X,X,I best,X,X,X,vs c k .none,I k,I (IntKind.i64.wrap ((↑i:Int)+1))]++replicate 37 X) (St.mk [] [] []) (z0g 0 (z0k X177 (cd PP 177 [1,1,1]) (z0q X177 177 Q)))) False)) False) False) False) False) False)) (cIf (noHL 0 ([vs [U k1,U k2] 2 .none,vp [vs l n .none,vs c k .none],vp [I id,I zo],vp [I day],vp [I of],X,X,I best,X,X,X,vs c k .none,I k,I (IntKind.i64.wrap ((↑i:Int)+1))]++replicate 37 X)) (z0l X177 (cd PP 177 [1,1,0,1,0,0]) ([vs [U k1,U k2] 2 .none,vp [vs l n .none,vs c k .none],vp [I id,I zo],vp [I day],vp [I of],X,X,I best,X,X,X,vs c k .none,I k,I (IntKind.i64.wrap ((↑i:Int)+1))]++replicate 37 X) (St.mk [] [] []) (z0g 0 (z0k X177 (cd PP 177 [1,1,1]) (z0q X177 177 Q)))) False)) (cIf (noHL 0 ([vs [U k1,U k2] 2 .none,vp [vs l n .none,vs c k .none],vp [I id,I zo],vp [I day],vp [I of],X,X,I best,X,X,X,vs c k .none,I k,I (IntKind.i64.wrap ((↑i:Int)+1))]++replicate 37 X)) (z0l X177 (cd PP 177 [1,1,0,1,0,0]) ([vs [U k1,U k2] 2 .none,vp [vs l n .none,vs c k .none],vp [I id,I zo],vp [I day],vp [I of],X,X,I best,X,X,X,vs c k .none,I k,I (IntKind.i64.wrap ((↑i:Int)+1))]++replicate 37 X) (St.mk [] [] []) (z0g 0 (z0k X177 (cd PP 177 [1,1,1]) (z0q X177 177 Q)))) False)) (cIf (noHL 0 ([vs [U k1,U k2] 2 .none,vp [vs l n .none,vs c k .none],vp [I id,I zo],vp [I day],vp [I of],X,X,I best,X,X,X,vs c k .none,I k,I (IntKind.i64.wrap ((↑i:Int)+1))]++replicate 37 X)) (z0l X177 (cd PP 177 [1,1,0,1,0,0]) ([vs [U k1,U k2] 2 .none,vp [vs l n .none,vs c k .none],vp [I id,I zo],vp [I day],vp [I of],X,X,I best,X,X,X,vs c k .none,I k,I (IntKind.i64.wrap ((↑i:Int)+1))]++replicate 37 X) (St.mk [] [] []) (z0g 0 (z0k X177 (cd PP 177 [1,1,1]) (z0q X177 177 Q)))) False)) False) False) False) False) (Q (ret (I best)))):=by kernel_rfl
end Go.Proofs
namespace Go.Ev
theorem y8i:∀ l:List Mst,z1y 0 (z0a z0d l)=true
 | []=>rfl
 | x::l=>by
  show z1y 0 (z0d x++z0a z0d l)=true
  rw[z7p,y8i l];rfl
theorem x2v:∀ l:List Int,z1y 0 (z0a z0s l)=true
 | []=>rfl
 | x::l=>by
  show z1y 0 (z0s x++z0a z0s l)=true
  rw[z7p,x2v l];rfl
end Go.Ev
namespace Go.Proofs
open Go Go.Ev
attribute [local irreducible] wpF wpC cd
theorem w00:Ct qB.c0 207 R207:=Ct.of_wp (l:=[]) (lm:=x5n) (tp:=[]) (ct:=[]) (sm:=[]) bok (Cts.nil _) ⟨_,_,Tryz.func207,rfl⟩ fun args D r hR hD=>by
 unfold R207 at hR
 split at hR<;>cases hR
 rename_i a b x
 refine ⟨rfl,?_⟩
 simp only[z0e,scrub,Tok.scrub]
 show wpF X207 207 _ _
 rw[w1q]
 refine z0y bok (Cts.nil _) ((w0l a b x _).mpr (z0i (fun h=>?_) (fun h=>z0y bok (Cts.nil _) ((x74 a b x _).mpr (z0i (fun h2=>?_) (fun h2=>z0y bok (Cts.nil _) ((x73 a b x _).mpr ?_)))))))
 ·have h:x=a:=by simpa using h
  rw[if_pos h.symm]
 ·have h:¬ a=x:=fun e=>by simp[e]at h
  have h2:x=b:=by simpa using h2
  rw[if_neg h,if_pos h2.symm]
 ·have h:¬ a=x:=fun e=>by simp[e]at h
  have h2:¬ b=x:=fun e=>by simp[e]at h2
  rw[if_neg h,if_neg h2]
theorem x6c:Ct qB.c0 178 R178:=Ct.of_wp (l:=[(207,R207)]) (lm:=x5o) (tp:=[]) (ct:=[]) (sm:=[]) bok ((Cts.nil _).cons w00) ⟨_,_,Tryz.func178,rfl⟩ fun args D r hR hD=>by
 unfold R178 at hR
 split at hR<;>cases hR
 rename_i a b x
 refine ⟨rfl,?_⟩
 simp only[z0e,scrub,Tok.scrub]
 show wpF X178 178 _ _
 rw[w1r]
 refine ⟨trivial,?_⟩
 refine congrArg (fun b=>ret (Bo b)) ?_
 rw[Bool.eq_iff_iff]
 by_cases h1:a=x
 ·simp[h1]
 ·by_cases h2:b=x
  ·simp[h1,h2]
  ·simp[h1,h2]
   exact ⟨fun e=>h1 e.symm,fun e=>h2 e.symm⟩
abbrev pE (id zo day of k1 k2:Int)(x:Dcr):Bool:=z5j k1 k2 x && z2a x ⟨id,zo⟩ day && z8a x of
theorem z9n {ms:List Mst}{ds:List Dcr}{k1 k2 id zo day of v w:Int}:noHL 0 ([vs [U k1,U k2] 2 .none,vp [vs (z0a z0d ms) ms.length .none,vs (z0a z0b ds) ds.length .none],vp [I id,I zo],vp [I day],vp [I of],X,X,I v,X,X,X,vs (z0a z0b ds) ds.length .none,I (ds.length:Int),I w]++replicate 37 X)=true:=by
 simp[z00,noHL,noH,eM.noHL',eD.noHL',z1r]
section
variable {ms:List Mst}{ds:List Dcr}{k1 k2 id zo day of:Int}(hd1:ds.length≤10000000)
include hd1
theorem x6y (Q:CR→Prop):∀ (d i:Nat) (best:Int),ds.length-i=d→i≤ds.length→IdxOf ds (pE id zo day of k1 k2) best→Q (rI (z5w ds (pE id zo day of k1 k2) (ds.drop i) i best)) →
  z0l X177 (cd PP 177 [1,1,0,1,0,0]) ([.vs [U k1,U k2] 2 .none,.vp [.vs (z0a z0d ms) ms.length .none,.vs (z0a z0b ds) ds.length .none],.vp [I id,I zo],.vp [I day],.vp [I of],X,X,I best,X,X,X,.vs (z0a z0b ds) ds.length .none,I ds.length,I i]++replicate 37 X) ⟨[],[],[]⟩ (z0g 0 (z0k X177 (cd PP 177 [1,1,1]) (z0q X177 177 Q))):=by
 have hC:Cts qB [(178,R178),(116,R116),(117,R117)]:=(((Cts.nil _).cons x6d).cons x1l).cons x6c
 intro d
 induction d with
 | zero =>
  intro i best hd hi hb hQ
  have hi':i=ds.length:=by omega
  subst hi'
  have hno:¬ ((ds.length:Nat):Int) < (ds.length:Nat):=by omega
  rw[List.drop_length]at hQ
  exact z0y bok hC ((x5f (z0a z0d ms) (z0a z0b ds) ms.length ds.length ds.length k1 k2 id zo day of best Q).mpr (z02 (df hno) hQ))
 | succ d ih =>
  intro i best hd hi hb hQ
  have hlt:i < ds.length:=by omega
  have e1:ds.length-(i+1)=d:=by omega
  have w1:IntKind.i64.wrap ((i:Int)+1)=((i+1:Nat):Int):=z1c (by omega) (by omega)
  have hl1:(i:Int) < ds.length:=by omega
  obtain ⟨x,hx,hdr⟩:=z06 hlt
  rw[hdr]at hQ
  have eX:Dcr.mk x.id x.ki x.ma x.st x.ra x.fr x.un x.op x.cl=x:=rfl
  have eB:z5w ds (pE id zo day of k1 k2) (x::ds.drop (i+1)) i best=z5w ds (pE id zo day of k1 k2) (ds.drop (i+1)) (i+1) (if pE id zo day of k1 k2 x && (decide (best < 0) || decide (x.ra≥(ds.getD best.toNat z10).ra)) then i else best):=rfl
  rw[eB]at hQ
  have hs:pE id zo day of k1 k2 x=true→(decide (best < 0) || decide (x.ra≥(ds.getD best.toNat z10).ra))=true→z0l X177 (cd PP 177 [1,1,0,1,0,0]) ([.vs [U k1,U k2] 2 .none,.vp [.vs (z0a z0d ms) ms.length .none,.vs (z0a z0b ds) ds.length .none],.vp [I id,I zo],.vp [I day],.vp [I of],X,X,I i,X,X,X,.vs (z0a z0b ds) ds.length .none,I ds.length,I (i+1:Nat)]++replicate 37 X) ⟨[],[],[]⟩ (z0g 0 (z0k X177 (cd PP 177 [1,1,1]) (z0q X177 177 Q))):=fun a b=>by
   rw[a,b]at hQ
   exact ih (i+1) i e1 hlt (.inr ⟨i,x,rfl,hx,a⟩) hQ
  have hk:(pE id zo day of k1 k2 x && (decide (best < 0) || decide (x.ra≥(ds.getD best.toNat z10).ra)))=false→z0l X177 (cd PP 177 [1,1,0,1,0,0]) ([.vs [U k1,U k2] 2 .none,.vp [.vs (z0a z0d ms) ms.length .none,.vs (z0a z0b ds) ds.length .none],.vp [I id,I zo],.vp [I day],.vp [I of],X,X,I best,X,X,X,.vs (z0a z0b ds) ds.length .none,I ds.length,I (i+1:Nat)]++replicate 37 X) ⟨[],[],[]⟩ (z0g 0 (z0k X177 (cd PP 177 [1,1,1]) (z0q X177 177 Q))):=fun a=>by
   rw[a]at hQ
   exact ih (i+1) best e1 hlt hb hQ
  refine z0y bok hC ((x5f (z0a z0d ms) (z0a z0b ds) ms.length ds.length i k1 k2 id zo day of best Q).mpr ?_)
  simp only[dt hl1,dt hlt,eD.gl,eD.gd hlt,eD.g0 hlt (by decide),eD.el hx,eD.ld0 hx (by decide),z16,eD.cI0 hx (by decide),z2t,z4j,eD.gf hlt 1 (by decide),eD.ld hx 1 (by decide),eD.cI hx 1 (by decide),z2s,z4i,eD.gf hlt 2 (by decide),eD.ld hx 2 (by decide),eD.cI hx 2 (by decide),z2r,z4h,eD.gf hlt 3 (by decide),eD.ld hx 3 (by decide),eD.cI hx 3 (by decide),z2q,z4g,eD.gf hlt 4 (by decide),eD.ld hx 4 (by decide),eD.cI hx 4 (by decide),z2p,z4f,eD.gf hlt 5 (by decide),eD.ld hx 5 (by decide),eD.cI hx 5 (by decide),z2o,z4e,eD.gf hlt 6 (by decide),eD.ld hx 6 (by decide),eD.cI hx 6 (by decide),z2n,z4d,eD.gf hlt 7 (by decide),eD.ld hx 7 (by decide),eD.cI hx 7 (by decide),z2m,z4c,eD.gf hlt 8 (by decide),eD.ld hx 8 (by decide),eD.cI hx 8 (by decide),z2l,z4b,z0x,w1,eX,true_and]
  have hpE:∀ a b c,(decide (x.ki=k1) || decide (x.ki=k2))=a→y0j x ⟨id,zo⟩ day=b→y18 x of=c→pE id zo day of k1 k2 x=(a && b && c):=fun a b c e f g=>by
   subst e;subst f;subst g;rfl
  refine z0i (fun c=>z0i (fun c2=>z0i (fun c3=>?_) (fun c3=>?_)) (fun c2=>?_)) (fun c=>?_)
  ·rcases hb with hb | ⟨q,y,hb,hy,hp⟩
   ·have hb0:best < 0:=by omega
    refine z0h (dt hb0) (z0h z9n (hs (hpE true true true c c2 c3) ?_))
    rw[dt hb0];rfl
   ·subst hb
    have hltk:=(List.getElem?_eq_some_iff.1 hy).1
    have hb0:¬ ((q:Nat):Int) < 0:=by omega
    have hg:ds.getD ((q:Nat):Int).toNat z10=y:=by rw[Int.toNat_natCast,List.getD_eq_getElem?_getD,hy];rfl
    rw[hg]at hs hk
    simp only[df hb0,z6s,dt (Int.natCast_nonneg q),Int.toNat_natCast,dt hltk,eD.gl,eD.gd hltk,eD.g0 hltk (by decide),eD.el hy,eD.ld0 hy (by decide),z16,eD.cI0 hy (by decide),z2t,z4j,eD.gf hltk 1 (by decide),eD.ld hy 1 (by decide),eD.cI hy 1 (by decide),z2s,z4i,eD.gf hltk 2 (by decide),eD.ld hy 2 (by decide),eD.cI hy 2 (by decide),z2r,z4h,eD.gf hltk 3 (by decide),eD.ld hy 3 (by decide),eD.cI hy 3 (by decide),z2q,z4g,eD.gf hltk 4 (by decide),eD.ld hy 4 (by decide),eD.cI hy 4 (by decide),z2p,z4f,eD.gf hltk 5 (by decide),eD.ld hy 5 (by decide),eD.cI hy 5 (by decide),z2o,z4e,eD.gf hltk 6 (by decide),eD.ld hy 6 (by decide),eD.cI hy 6 (by decide),z2n,z4d,eD.gf hltk 7 (by decide),eD.ld hy 7 (by decide),eD.cI hy 7 (by decide),z2m,z4c,eD.gf hltk 8 (by decide),eD.ld hy 8 (by decide),eD.cI hy 8 (by decide),z2l,z4b,z0x]
    refine z0i (fun c4=>z0h z9n (hs (hpE true true true c c2 c3) ?_)) (fun c4=>z0h z9n (hk ?_))
    ·rw[c4,Bool.or_true]
    ·rw[c4,df hb0];simp
  ·exact z0h z9n (hk (by rw[hpE true true false c c2 c3];rfl))
  ·exact z0h z9n (hk (by rw[hpE true false _ c c2 rfl];rfl))
  ·exact z0h z9n (hk (by rw[hpE false _ _ c rfl rfl];rfl))
end
theorem ct177:Ct qB.c0 177 R177:=Ct.of_wp (l:=[(178,R178),(116,R116),(117,R117)]) (lm:=x5p) (tp:=[]) (ct:=[]) (sm:=[(3,0)]) bok ((((Cts.nil _).cons x6d).cons x1l).cons x6c) ⟨_,_,Tryz.func177,rfl⟩ fun args D r hR hD=>by
 unfold R177 at hR
 split at hR<;>cases hR
 rename_i k1 k2 l n c k id zo day of
 obtain ⟨ms,ds,rfl,rfl,rfl,rfl,hm,hk⟩:=hD
 refine ⟨by simp[noHL,noH,eM.noHL',eD.noHL'],?_⟩
 rw[show z0e 0 [vs [U k1,U k2] 2 .none,vp [vs (z0a z0d ms) ms.length .none,vs (z0a z0b ds) ds.length .none],vp [I id,I zo],vp [I day],vp [I of]]=[vs [U k1,U k2] 2 .none,vp [vs (z0a z0d ms) ms.length .none,vs (z0a z0b ds) ds.length .none],vp [I id,I zo],vp [I day],vp [I of]] by simp[z0e,scrub,eM.scL,eD.scL,Tok.scrub],z1m]
 show wpF X177 177 _ _
 rw[w1s]
 exact z0h z9n (x6y hk _ _ 0 (-1) rfl (Nat.zero_le _) (.inl rfl) rfl)
theorem x68:HookOk qB.c0 177 (z7t R177):=ct177.hookS gtpB fun args D r hR hD=>by
 unfold R177 at hR
 split at hR<;>cases hR
 obtain ⟨ms,ds,rfl,rfl,rfl,rfl,hm,hk⟩:=hD
 simp[z0e,scrub,eM.scL,eD.scL,Tok.scrub]
def BM0:Base:=qB.hk 177 (z7t R177)
theorem bm0ok:BaseOk BM0:=bok.hk x68
end Go.Proofs
--BASE BM0
namespace Go.Proofs
open Go Go.Ev
def R148:Spc:=fun args=>match args with
 | [.agg [.vs l n .none,.vs c k .none],.agg [.int .i64 id,.int .i64 zo],.int .i64 day,.int .i64 of]=>some (∃ ms ds,l=z0a z0d ms∧n=ms.length∧c=z0a z0b ds∧k=ds.length∧ms.length≤10000000∧ds.length≤10000000,.ret (.agg [I (z0m (z0j c) ⟨id,zo⟩ day of 1 2),I (z0m (z0j c) ⟨id,zo⟩ day of 3 4)]))
 | _=>none
def y1d (ds:List Dcr)(f:Int):Prop:=f=-1∨∃ k:Nat,f=k∧k < ds.length
def R149:Spc:=fun args=>match args with
 | [.agg [.vs l n .none,.vs c k .none],.agg [.int .i64 f,.int .i64 g]]=>some (∃ ms ds,l=z0a z0d ms∧n=ms.length∧c=z0a z0b ds∧k=ds.length∧ms.length≤10000000∧ds.length≤10000000∧y1d ds f∧y1d ds g,.ret (.agg [I (z4q (z0j c) f g).fl,Bo (z4q (z0j c) f g).ho]))
 | _=>none
def x5u:List (Nat×List Nat):=[]
def X148:WCx:=BM0.wcx [] x5u [] [] []
def x5t:List (Nat×List Nat):=[]
def X149:WCx:=BM0.wcx [] x5t [] [] []
theorem v148 (l c:List AV)(n k:Nat)(id zo day of:Int)(Q:CR→Prop):wpF X148 148 [.agg [.vs l n .none,.vs c k .none],.agg [I id,I zo],I day,I of] Q =
 ((∃ ms,∃ ds,l=z0a z0d ms∧n=ms.length∧c=z0a z0b ds∧k=ds.length∧ms.length≤10000000∧ds.length≤10000000)∧(y4g (rI (z0m (z0j c) (Mst.mk id zo) day of 1 2))=true∧z3b [some (cells [vs l n .none,vs c k .none] 25),some (cells [I id,I zo] 58),some (cells [I day] 3),some (cells [I of] 3),some (cells [I 0,I 0] 108)] ([]++[vs [U 1,U 2] 2 (Tok.own 0)]++[ptr 0 0,ptr 1 0,ptr 2 0,ptr 3 0])=true)∧(∃ ms,∃ ds,l=z0a z0d ms∧n=ms.length∧c=z0a z0b ds∧k=ds.length∧ms.length≤10000000∧ds.length≤10000000)∧(y4g (rI (z0m (z0j c) (Mst.mk id zo) day of 3 4))=true∧z3b [some (cells [vs l n .none,vs c k .none] 25),some (cells [I id,I zo] 58),some (cells [I day] 3),some (cells [I of] 3),some (cells [I 0,I 0] 108)] ([]++[vs [U 3,U 4] 2 (Tok.own 1)]++[ptr 0 0,ptr 1 0,ptr 2 0,ptr 3 0])=true)∧Q (ret (agg [I (z0m (z0j c) (Mst.mk id zo) day of 1 2),I (z0m (z0j c) (Mst.mk id zo) day of 3 4)]))):=by kernel_rfl
theorem w1w (l c:List AV)(n k:Nat)(f g:Int)(Q:CR→Prop):wpF X149 149 [.agg [.vs l n .none,.vs c k .none],.agg [I f,I g]] Q =
 (cIf (decide (f≥0)) (cIf (decide ((0:Int)≤f)) (cIf (decide (f.toNat < k)) (cIf (decide (k*9=c.length)) (cIf (decide (0 < (drop 3 (drop (f.toNat*9) c)).length)) (cIf (z0t (ofVal (Value.int IntKind.i64 0)) ((drop 3 (drop (f.toNat*9) c)).getD 0 X)) (cIf (cI (drop 3 (drop (f.toNat*9) c)) 0 != 0) (cIf (decide (g≥0)) (cIf (decide ((0:Int)≤g)) (cIf (decide (g.toNat < k)) (cIf (decide (k*9=c.length)) (cIf (decide (0 < (drop 1 (drop (g.toNat*9) c)).length)) (cIf (z0t (ofVal (Value.int IntKind.u8 0)) ((drop 1 (drop (g.toNat*9) c)).getD 0 X)) (Q (ret (agg [I (cI (drop 3 (drop (f.toNat*9) c)) 0),Bo (cI (drop 1 (drop (g.toNat*9) c)) 0 == 3)]))) False) False) False) False) False) (Q (ret (agg [I (cI (drop 3 (drop (f.toNat*9) c)) 0),Bo false])))) (Q (ret (agg [I (cI (drop 3 (drop (f.toNat*9) c)) 0),Bo false])))) False) False) False) False) False) (Q (ret (agg [I 0,Bo false])))):=by kernel_rfl
end Go.Proofs
namespace Go.Proofs
open Go Go.Ev
attribute [local irreducible] wpF wpC cd
theorem w05:Ct qB.c0 148 R148:=Ct.of_wp (B:=BM0) (l:=[]) (lm:=x5u) (tp:=[]) (ct:=[]) (sm:=[]) bm0ok (Cts.nil _) ⟨_,_,Tryz.func148,rfl⟩ fun args D r hR hD=>by
 unfold R148 at hR
 split at hR<;>cases hR
 rename_i l n c k id zo day of
 obtain ⟨ms,ds,rfl,rfl,rfl,rfl,hm,hk⟩:=hD
 refine ⟨by simp[noHL,noH,eM.noHL',eD.noHL'],?_⟩
 rw[show z0e 0 [agg [vs (z0a z0d ms) ms.length .none,vs (z0a z0b ds) ds.length .none],agg [I id,I zo],I day,I of]=[agg [vs (z0a z0d ms) ms.length .none,vs (z0a z0b ds) ds.length .none],agg [I id,I zo],I day,I of] by simp[z0e,scrub,eM.scL,eD.scL,Tok.scrub]]
 show wpF X148 148 _ _
 rw[v148]
 have hp:∃ ms' ds',z0a z0d ms=z0a z0d ms'∧ms.length=ms'.length∧z0a z0b ds=z0a z0b ds'∧ds.length=ds'.length∧ms'.length≤10000000∧ds'.length≤10000000:=⟨ms,ds,rfl,rfl,rfl,rfl,hm,hk⟩
 exact ⟨hp,⟨rfl,by simp[z3b,z8j,eM.noHL',eD.noHL',y8i,y8j,noHL,noH,z1y,noT]⟩,hp,⟨rfl,by simp[z3b,z8j,eM.noHL',eD.noHL',y8i,y8j,noHL,noH,z1y,noT]⟩,rfl⟩
theorem w04:Ct qB.c0 149 R149:=Ct.of_wp (B:=BM0) (l:=[]) (lm:=x5t) (tp:=[]) (ct:=[]) (sm:=[]) bm0ok (Cts.nil _) ⟨_,_,Tryz.func149,rfl⟩ fun args D r hR hD=>by
 unfold R149 at hR
 split at hR<;>cases hR
 rename_i l n c k f g
 obtain ⟨ms,ds,rfl,rfl,rfl,rfl,hm,hk,hf,hg⟩:=hD
 refine ⟨by simp[noHL,noH,eM.noHL',eD.noHL'],?_⟩
 rw[show z0e 0 [agg [vs (z0a z0d ms) ms.length .none,vs (z0a z0b ds) ds.length .none],agg [I f,I g]]=[agg [vs (z0a z0d ms) ms.length .none,vs (z0a z0b ds) ds.length .none],agg [I f,I g]] by simp[z0e,scrub,eM.scL,eD.scL,Tok.scrub]]
 show wpF X149 149 _ _
 rw[w1w,z1m]
 rcases hf with rfl | ⟨i,rfl,hi⟩
 ·refine z02 rfl ?_
  rfl
 ·obtain ⟨x,hx,-⟩:=z06 hi
  have h1:((i:Nat):Int)≥0:=Int.natCast_nonneg i
  have hgx:ds.getD i z10=x:=by rw[List.getD_eq_getElem?_getD,hx];rfl
  have hS:z4q ds i g=⟨x.st,decide (x.st≠0) && decide (0≤g) && decide ((ds.getD g.toNat z10).ki=3)⟩:=by
   unfold z4q
   simp only[if_pos (Int.natCast_nonneg i),Int.toNat_natCast,hgx]
  rw[hS]
  simp only[dt h1,z0x,dt (Int.natCast_nonneg i),Int.toNat_natCast,dt hi,eD.gl,eD.gd hi,eD.g0 hi (by decide),eD.el hx,eD.ld0 hx (by decide),z16,eD.cI0 hx (by decide),z2t,z4j,eD.gf hi 1 (by decide),eD.ld hx 1 (by decide),eD.cI hx 1 (by decide),z2s,z4i,eD.gf hi 2 (by decide),eD.ld hx 2 (by decide),eD.cI hx 2 (by decide),z2r,z4h,eD.gf hi 3 (by decide),eD.ld hx 3 (by decide),eD.cI hx 3 (by decide),z2q,z4g,eD.gf hi 4 (by decide),eD.ld hx 4 (by decide),eD.cI hx 4 (by decide),z2p,z4f,eD.gf hi 5 (by decide),eD.ld hx 5 (by decide),eD.cI hx 5 (by decide),z2o,z4e,eD.gf hi 6 (by decide),eD.ld hx 6 (by decide),eD.cI hx 6 (by decide),z2n,z4d,eD.gf hi 7 (by decide),eD.ld hx 7 (by decide),eD.cI hx 7 (by decide),z2m,z4c,eD.gf hi 8 (by decide),eD.ld hx 8 (by decide),eD.cI hx 8 (by decide),z2l,z4b]
  refine z0i (fun q=>?_) (fun q=>?_)
  ·have q:x.st≠0:=by simpa using q
   rcases hg with rfl | ⟨j,rfl,hj⟩
   ·refine z02 rfl ?_
    simp
   ·obtain ⟨y,hy,-⟩:=z06 hj
    have h2:((j:Nat):Int)≥0:=Int.natCast_nonneg j
    have hgy:ds.getD j z10=y:=by rw[List.getD_eq_getElem?_getD,hy];rfl
    simp only[dt h2,z0x,dt (Int.natCast_nonneg j),Int.toNat_natCast,dt hj,eD.gl,eD.gd hj,eD.g0 hj (by decide),eD.el hy,eD.ld0 hy (by decide),z16,eD.cI0 hy (by decide),z2t,z4j,eD.gf hj 1 (by decide),eD.ld hy 1 (by decide),eD.cI hy 1 (by decide),z2s,z4i,eD.gf hj 2 (by decide),eD.ld hy 2 (by decide),eD.cI hy 2 (by decide),z2r,z4h,eD.gf hj 3 (by decide),eD.ld hy 3 (by decide),eD.cI hy 3 (by decide),z2q,z4g,eD.gf hj 4 (by decide),eD.ld hy 4 (by decide),eD.cI hy 4 (by decide),z2p,z4f,eD.gf hj 5 (by decide),eD.ld hy 5 (by decide),eD.cI hy 5 (by decide),z2o,z4e,eD.gf hj 6 (by decide),eD.ld hy 6 (by decide),eD.cI hy 6 (by decide),z2n,z4d,eD.gf hj 7 (by decide),eD.ld hy 7 (by decide),eD.cI hy 7 (by decide),z2m,z4c,eD.gf hj 8 (by decide),eD.ld hy 8 (by decide),eD.cI hy 8 (by decide),z2l,z4b,hgy]
    have e:(decide (x.st≠0) && true && decide (y.ki=3))=(y.ki == 3):=by
     rw[dt q,Bool.eq_iff_iff];simp
    rw[e]
  ·have q:x.st=0:=by simpa using q
   rw[q]
   simp
end Go.Proofs
namespace Go.Proofs
open Go Go.Ev
theorem x7b:HookOk qB.c0 141 (z8r 174):=y70 (it:=3) ⟨_,_,Tryz.func141,rfl⟩ fun args S r S' h=>Tryz.sorted_ok (C:=qB.c0) rfl h
theorem x7a:HookOk qB.c0 142 (y3g 174 122):=x07 ⟨_,_,Tryz.func142,rfl⟩ Tryz.keysSpec
def BM1:Base:=(BM0.hk 141 (z8r 174)).hk 142 (y3g 174 122)
theorem bm1ok:BaseOk BM1:=(bm0ok.hk x7b).hk x7a
end Go.Proofs
namespace Go.Ev
section
variable {B:Base}{nb:Nat}{l:List (FuncId×Spc)}{lm:List (Nat×List Nat)}{tp ct:List Nat}{sm:List (Nat×Nat)}
theorem z1g (hB:BaseOk B)(hl:Cts B l){c:Code}{env:Env}{S:St}{k:Kont}(h:wpC (B.wcxP nb l lm tp ct sm) c env S (z1i (B.wcxP nb l lm tp ct sm) c k)):z0l (B.wcxP nb l lm tp ct sm) c env S k :=
 y25 (y15 hB hl) (y53 hB hl) h
theorem CtM.of_wp (hB:BaseOk B)(hl:Cts B l){tM:TypeId}{nc g:Nat}{R:SpcM}(hb:∃ (fn:Func) (c:Code),B.P.funcs[g]?=some fn∧fn.body=some c)
  (h:∀ rest cs es (D:Prop) r es',R rest cs es=some (D,r,es')→D→z5m rest∧z5m cs∧z6y es∧z6y es'∧(∀ m,mvR m r=r)∧wpS (B.wcxP 2 l lm tp ct sm) g (.ptr 1 0::rest) (z2c tM cs es) fun r' hs'=>r'=r∧hs'=z2c tM cs es'):CtM B.c0 tM nc g R :=
 ⟨hb,fun rest cs es D r es' hR hD=>by
  obtain ⟨h1,h2,h3,h4,h5,h6⟩:=h rest cs es D r es' hR hD
  obtain ⟨r',h',q,rfl,rfl⟩:=x17 (y15 hB hl) (y53 hB hl) (show (z2c tM cs es).length=2 from rfl) h6
  exact ⟨h1,h2,h3,h4,h5,q⟩⟩
theorem CtM.of_wpE (hB:BaseOk B)(hl:Cts B l){tM:TypeId}{nc g:Nat}{R:SpcM}(hb:∃ (fn:Func) (c:Code),B.P.funcs[g]?=some fn∧fn.body=some c){Post:List AV→List (AV×AV)→Prop}(hp:∀ cs es,Post cs es→z6y es)
  (h:∀ rest cs es (D:Prop) r es',R rest cs es=some (D,r,es')→D→es'=y6g B.c0 tM g (Post cs) rest cs es r∧z5m rest∧z5m cs∧z6y es∧(∀ m,mvR m r=r)∧wpS (B.wcxP 2 l lm tp ct sm) g (.ptr 1 0::rest) (z2c tM cs es) fun r' hs'=>r'=r∧∃ es',Post cs es'∧hs'=z2c tM cs es') :
  CtM B.c0 tM nc g R∧∀ rest cs es (D:Prop) r es',R rest cs es=some (D,r,es')→D→Post cs es':=by
 have key:∀ rest cs es (D:Prop) r es',R rest cs es=some (D,r,es')→D→z5m rest∧z5m cs∧z6y es∧(∀ m,mvR m r=r)∧RunsM B.c0 tM g (Post cs) rest cs es r es':=fun rest cs es D r es' hR hD=>by
  obtain ⟨h0,h1,h2,h3,h5,h6⟩:=h rest cs es D r es' hR hD
  rw[h0]
  exact ⟨h1,h2,h3,h5,x2r (RunsM.of_wp hB hl h6)⟩
 refine ⟨⟨hb,fun rest cs es D r es' hR hD=>?_⟩,fun rest cs es D r es' hR hD=>(key rest cs es D r es' hR hD).2.2.2.2.1⟩
 obtain ⟨h1,h2,h3,h4,h5⟩:=key rest cs es D r es' hR hD
 exact ⟨h1,h2,h3,hp _ _ h5.1,h4,h5.2⟩
end
theorem x0k (x:Prt):like [I 0,I 0,Bo false,I 0,I 0] (z04 x)=true:=rfl
theorem x3p (x:Prt):z0t (ofVal (Value.int IntKind.i64 0)) ((z04 x).getD 0 X)=true:=rfl
theorem x6l (x:Prt):cI (z04 x) 0=x.of:=rfl
theorem x3o (x:Prt):z0t (ofVal (Value.int IntKind.i64 0)) ((z04 x).getD 1 X)=true:=rfl
theorem x6k (x:Prt):cI (z04 x) 1=x.fl:=rfl
theorem x3n (x:Prt):z0t (ofVal (Value.bool false)) ((z04 x).getD 2 X)=true:=rfl
theorem x6j (x:Prt):cB (z04 x) 2=x.ho:=rfl
theorem x3m (x:Prt):z0t (ofVal (Value.int IntKind.i64 0)) ((z04 x).getD 3 X)=true:=rfl
theorem x6i (x:Prt):cI (z04 x) 3=x.pf:=rfl
theorem x3l (x:Prt):z0t (ofVal (Value.int IntKind.i64 0)) ((z04 x).getD 4 X)=true:=rfl
theorem x6h (x:Prt):cI (z04 x) 4=x.ph:=rfl
theorem y1s (x:Int):like [I 0] (z0s x)=true:=rfl
theorem y3s (x:Int):z0t (ofVal (Value.int IntKind.i64 0)) ((z0s x).getD 0 X)=true:=rfl
theorem y50 (x:Int):cI (z0s x) 0=x:=rfl
theorem z9e (n:Int):z5m [I n]:=⟨rfl,rfl⟩
abbrev mV (ms:List Mst)(ds:List Dcr)(id zo:Int):List AV:=mCs (z0a z0d ms) (z0a z0b ds) (z0a z0s (brk ds)) ms.length ds.length (brk ds).length id zo
theorem z6e (ms:List Mst)(ds:List Dcr)(id zo:Int):z5m (mV ms ds id zo):=⟨by simp[mCs,noHL,noH,eM.noHL',eD.noHL',eNum.noHL'],by simp[mCs,z1y,noT,y8i,y8j,x2v]⟩
abbrev mBk (ms:List Mst)(ds:List Dcr)(id zo:Int)(es:List (AV×AV)):List (Option HB):=[some (.map es),some (.cells [.vs (z0a z0d ms) ms.length .none,.vs (z0a z0b ds) ds.length .none,I id,I zo,.vs (z0a z0s (brk ds)) (brk ds).length .none,.mp 0] 185)]
theorem y5a {ds:List Dcr}{m:Mst}{es:List (AV×AV)}(h:MapOk ds m es)(n:Nat):okBlk n (some (.map es))=true:=h.noHB n
theorem y0t (ms:List Mst)(ds:List Dcr)(id zo:Int){n:Nat}(hn:0 < n):okBlk n (some (.cells [.vs (z0a z0d ms) ms.length .none,.vs (z0a z0b ds) ds.length .none,I id,I zo,.vs (z0a z0s (brk ds)) (brk ds).length .none,.mp 0] 185))=true:=by
 simp[okBlk,noHB,noHL,noH,eM.noHL',eD.noHL',eNum.noHL',hn]
theorem z5q {ms:List Mst}{ds:List Dcr}{id zo:Int}{es:List (AV×AV)}(h:MapOk ds ⟨id,zo⟩ es):[some (z0n 0 (.map es)),some (.cells [.vs (z0e 0 (z0a z0d ms)) ms.length .none,.vs (z0e 0 (z0a z0b ds)) ds.length .none,I id,I zo,.vs (z0e 0 (z0a z0s (brk ds))) (brk ds).length .none,.mp 0] 185)]=z2c 185 (mV ms ds id zo) es:=by
 rw[h.scrub,eM.scL,eD.scL,eNum.scL];rfl
theorem z3w {ms:List Mst}{ds:List Dcr}{id zo:Int}{es:List (AV×AV)}(h:MapOk ds ⟨id,zo⟩ es):(mBk ms ds id zo es).all (okBlk 2)=true:=by
 rw[List.all_cons,List.all_cons,List.all_nil,y5a h,y0t ms ds id zo (by omega)];rfl
end Go.Ev
--BASE BM1
namespace Go.Proofs
open Go Go.Ev
def R147:SpcM:=fun rest cs es=>match rest,cs with
 | [.int .i64 day],[.vs a n .none,.vs c k .none,.int .i64 id,.int .i64 zo,.vs b nb .none]=>some (∃ ms ds,ObjOk a c b n k nb id zo es ms ds,rI (z0z (z0j c) day),es)
 | _,_=>none
def R145:SpcM:=fun rest cs es=>match rest,cs with
 | [.int .i64 day],[.vs a n .none,.vs c k .none,.int .i64 id,.int .i64 zo,.vs b nb .none]=>some (∃ ms ds,ObjOk a c b n k nb id zo es ms ds,.ret (.tup [I ((z7a (z0j c) day).getD 0),Bo (z7a (z0j c) day).isSome]),es)
 | _,_=>none
def x5v:List (Nat×List Nat):=[(3,[1,5,11,12,13]),(8,[5])]
def X147:WCx:=BM1.wcxP 2 [] x5v [] [] []
def x5w:List (Nat×List Nat):=[(2,[1,11,12,13]),(7,[])]
def X145:WCx:=BM1.wcxP 2 [] x5w [] [] []
theorem w1x (a c b:List AV)(n k nb:Nat)(id zo day:Int)(es:List (AV×AV))(Q:CR→List (Option HB)→Prop):wpS X147 147 [.ptr 1 0,I day] [some (.map es),some (.cells [.vs a n .none,.vs c k .none,I id,I zo,.vs b nb .none,.mp 0] 185)] Q =
 (z0l X147 (cd X147.P 147 [1,1,0,1,0,0]) ([X,I day,X,X,X,I (-1),X,X,X,X,X,vs b nb .none,I nb,I 0]++replicate 9 X) (St.mk [some (map es),some (cells [vs a n .none,vs c k .none,I id,I zo,vs b nb .none,mp 0] 185)] [] []) (z0g 0 (z0k X147 (cd X147.P 147 [1,1,1]) (z05 X147 147 Q)))):=by kernel_rfl
theorem x5i (a c b:List AV)(n k nb i:Nat)(id zo day f:Int)(es:List (AV×AV))(Q:CR→List (Option HB)→Prop):wpC X147 (cd PP 147 [1,1,0,1,0,0]) ([X,I day,X,X,X,I f,X,X,X,X,X,.vs b nb .none,I nb,I i]++replicate 9 X) ⟨[some (.map es),some (.cells [.vs a n .none,.vs c k .none,I id,I zo,.vs b nb .none,.mp 0] 185)],[],[]⟩ (z1i X147 (cd PP 147 [1,1,0,1,0,0]) (z0g 0 (z0k X147 (cd PP 147 [1,1,1]) (z05 X147 147 Q)))) =
 (cIf (decide ((↑i:Int) < (↑nb:Int))) (cIf (decide (i < nb)) (cIf (decide (nb*1=b.length)) (cIf (decide (0 < (drop (i*1) b).length)) (cIf (z0t (ofVal (Value.int IntKind.i64 0)) ((drop (i*1) b).getD 0 X)) (cIf (decide (cI (drop (i*1) b) 0≤day)) (z0l X147 (cd PP 147 [1,1,0,1,0,0]) ([X,I day,X,X,X,I (cI (drop (i*1) b) 0),X,X,X,X,X,vs b nb .none,I nb,I (IntKind.i64.wrap ((↑i:Int)+1))]++replicate 9 X) (St.mk [some (map es),some (cells [vs a n .none,vs c k .none,I id,I zo,vs b nb .none,mp 0] 185)] [] []) (z0g 0 (z0k X147 (cd PP 147 [1,1,1]) (z05 X147 147 Q)))) (z0l X147 (cd PP 147 [1,1,0,1,0,0]) ([X,I day,X,X,X,I f,X,X,X,X,X,vs b nb .none,I nb,I (IntKind.i64.wrap ((↑i:Int)+1))]++replicate 9 X) (St.mk [some (map es),some (cells [vs a n .none,vs c k .none,I id,I zo,vs b nb .none,mp 0] 185)] [] []) (z0g 0 (z0k X147 (cd PP 147 [1,1,1]) (z05 X147 147 Q))))) False) False) False) False) (cIf ((List.take X147.bs [some (map es),some (cells [vs a n .none,vs c k .none,I id,I zo,vs b nb .none,mp 0] 185)]).all (okBlk X147.bs)) (Q (ret (I f)) [some (z0n 0 (map es)),some (cells [vs (z0e 0 a) n .none,vs (z0e 0 c) k .none,I id,I zo,vs (z0e 0 b) nb .none,mp 0] 185)]) False)):=by kernel_rfl
theorem v145 (a c b:List AV)(n k nb:Nat)(id zo day:Int)(es:List (AV×AV))(Q:CR→List (Option HB)→Prop):wpS X145 145 [.ptr 1 0,I day] [some (.map es),some (.cells [.vs a n .none,.vs c k .none,I id,I zo,.vs b nb .none,.mp 0] 185)] Q =
 (z0l X145 (cd X145.P 145 [1,0,1,0,0]) ([X,I day,X,X,X,X,X,X,X,X,X,vs b nb .none,I nb,I 0]++replicate 8 X) (St.mk [some (map es),some (cells [vs a n .none,vs c k .none,I id,I zo,vs b nb .none,mp 0] 185)] [] []) (z0g 0 (z0k X145 (cd X145.P 145 [1,1]) (z05 X145 145 Q)))):=by kernel_rfl
theorem x5j (a c b:List AV)(n k nb i:Nat)(id zo day:Int)(es:List (AV×AV))(Q:CR→List (Option HB)→Prop):wpC X145 (cd PP 145 [1,0,1,0,0]) ([X,I day,X,X,X,X,X,X,X,X,X,.vs b nb .none,I nb,I i]++replicate 8 X) ⟨[some (.map es),some (.cells [.vs a n .none,.vs c k .none,I id,I zo,.vs b nb .none,.mp 0] 185)],[],[]⟩ (z1i X145 (cd PP 145 [1,0,1,0,0]) (z0g 0 (z0k X145 (cd PP 145 [1,1]) (z05 X145 145 Q)))) =
 (cIf (decide ((↑i:Int) < (↑nb:Int))) (cIf (decide (i < nb)) (cIf (decide (nb*1=b.length)) (cIf (decide (0 < (drop (i*1) b).length)) (cIf (z0t (ofVal (Value.int IntKind.i64 0)) ((drop (i*1) b).getD 0 X)) (cIf (decide (cI (drop (i*1) b) 0 > day)) (cIf ((List.take X145.bs [some (map es),some (cells [vs a n .none,vs c k .none,I id,I zo,vs b nb .none,mp 0] 185)]).all (okBlk X145.bs)) (Q (ret (tup [I (cI (drop (i*1) b) 0),Bo true])) [some (z0n 0 (map es)),some (cells [vs (z0e 0 a) n .none,vs (z0e 0 c) k .none,I id,I zo,vs (z0e 0 b) nb .none,mp 0] 185)]) False) (z0l X145 (cd PP 145 [1,0,1,0,0]) ([X,I day,X,X,X,X,X,X,X,X,X,vs b nb .none,I nb,I (IntKind.i64.wrap ((↑i:Int)+1))]++replicate 8 X) (St.mk [some (map es),some (cells [vs a n .none,vs c k .none,I id,I zo,vs b nb .none,mp 0] 185)] [] []) (z0g 0 (z0k X145 (cd PP 145 [1,1]) (z05 X145 145 Q))))) False) False) False) False) (cIf ((List.take X145.bs [some (map es),some (cells [vs a n .none,vs c k .none,I id,I zo,vs b nb .none,mp 0] 185)]).all (okBlk X145.bs)) (Q (ret (tup [I 0,Bo false])) [some (z0n 0 (map es)),some (cells [vs (z0e 0 a) n .none,vs (z0e 0 c) k .none,I id,I zo,vs (z0e 0 b) nb .none,mp 0] 185)]) False)):=by kernel_rfl
end Go.Proofs
namespace Go.Proofs
open Go Go.Ev
attribute [local irreducible] wpF wpC wpS cd
section
variable {ms:List Mst}{ds:List Dcr}{id zo day:Int}{es:List (AV×AV)}(hB:(brk ds).length≤10000000)(hM:MapOk ds ⟨id,zo⟩ es)
include hB hM
theorem x61 (Q:CR→List (Option HB)→Prop):∀ (d i:Nat) (f:Int),(brk ds).length-i=d→i≤(brk ds).length→Q (rI (z2u day ((brk ds).drop i) f)) (z2c 185 (mV ms ds id zo) es) →
  z0l X147 (cd PP 147 [1,1,0,1,0,0]) ([X,I day,X,X,X,I f,X,X,X,X,X,.vs (z0a z0s (brk ds)) (brk ds).length .none,I (brk ds).length,I i]++replicate 9 X) ⟨mBk ms ds id zo es,[],[]⟩ (z0g 0 (z0k X147 (cd PP 147 [1,1,1]) (z05 X147 147 Q))):=by
 intro d
 induction d with
 | zero =>
  intro i f hd hi hQ
  have hi':i=(brk ds).length:=by omega
  subst hi'
  have hno:¬ (((brk ds).length:Nat):Int) < ((brk ds).length:Nat):=by omega
  rw[List.drop_length]at hQ
  refine z1g bm1ok (Cts.nil _) ((x5i (z0a z0d ms) (z0a z0b ds) (z0a z0s (brk ds)) ms.length ds.length (brk ds).length (brk ds).length id zo day f es Q).mpr (z02 (df hno) (z0h (z3w hM) ?_)))
  rw[z5q hM]
  exact hQ
 | succ d ih =>
  intro i f hd hi hQ
  have hlt:i < (brk ds).length:=by omega
  have e1:(brk ds).length-(i+1)=d:=by omega
  have w1:IntKind.i64.wrap ((i:Int)+1)=((i+1:Nat):Int):=z1c (by omega) (by omega)
  have hl1:(i:Int) < (brk ds).length:=by omega
  obtain ⟨x,hx,hdr⟩:=z06 hlt
  rw[hdr]at hQ
  refine z1g bm1ok (Cts.nil _) ((x5i (z0a z0d ms) (z0a z0b ds) (z0a z0s (brk ds)) ms.length ds.length (brk ds).length i id zo day f es Q).mpr ?_)
  simp only[dt hl1,dt hlt,eNum.gl,eNum.gd hlt,eNum.g0 hlt (by decide),eNum.el hx,eNum.ld0 hx (by decide),y1s,eNum.cI0 hx (by decide),y3s,y50,z0x,w1]
  refine z0i (fun q=>ih (i+1) x e1 hlt ?_) (fun q=>ih (i+1) f e1 hlt ?_)
  ·have q:x≤day:=of_decide_eq_true q
   rw[z2u,if_pos q]at hQ
   exact hQ
  ·have q:¬ x≤day:=of_decide_eq_false q
   rw[z2u,if_neg q]at hQ
   exact hQ
theorem x62 (Q:CR→List (Option HB)→Prop):∀ (d i:Nat),(brk ds).length-i=d→i≤(brk ds).length→Q (.ret (.tup [I ((((brk ds).drop i).find? fun b=>decide (day < b)).getD 0),Bo (((brk ds).drop i).find? fun b=>decide (day < b)).isSome])) (z2c 185 (mV ms ds id zo) es) →
  z0l X145 (cd PP 145 [1,0,1,0,0]) ([X,I day,X,X,X,X,X,X,X,X,X,.vs (z0a z0s (brk ds)) (brk ds).length .none,I (brk ds).length,I i]++replicate 8 X) ⟨mBk ms ds id zo es,[],[]⟩ (z0g 0 (z0k X145 (cd PP 145 [1,1]) (z05 X145 145 Q))):=by
 intro d
 induction d with
 | zero =>
  intro i hd hi hQ
  have hi':i=(brk ds).length:=by omega
  subst hi'
  have hno:¬ (((brk ds).length:Nat):Int) < ((brk ds).length:Nat):=by omega
  rw[List.drop_length]at hQ
  refine z1g bm1ok (Cts.nil _) ((x5j (z0a z0d ms) (z0a z0b ds) (z0a z0s (brk ds)) ms.length ds.length (brk ds).length (brk ds).length id zo day es Q).mpr (z02 (df hno) (z0h (z3w hM) ?_)))
  rw[z5q hM]
  exact hQ
 | succ d ih =>
  intro i hd hi hQ
  have hlt:i < (brk ds).length:=by omega
  have e1:(brk ds).length-(i+1)=d:=by omega
  have w1:IntKind.i64.wrap ((i:Int)+1)=((i+1:Nat):Int):=z1c (by omega) (by omega)
  have hl1:(i:Int) < (brk ds).length:=by omega
  obtain ⟨x,hx,hdr⟩:=z06 hlt
  rw[hdr,List.find?_cons]at hQ
  refine z1g bm1ok (Cts.nil _) ((x5j (z0a z0d ms) (z0a z0b ds) (z0a z0s (brk ds)) ms.length ds.length (brk ds).length i id zo day es Q).mpr ?_)
  simp only[dt hl1,dt hlt,eNum.gl,eNum.gd hlt,eNum.g0 hlt (by decide),eNum.el hx,eNum.ld0 hx (by decide),y1s,eNum.cI0 hx (by decide),y3s,y50,z0x,w1]
  refine z0i (fun q=>z0h (z3w hM) ?_) (fun q=>ih (i+1) e1 hlt ?_)
  ·have q:decide (day < x)=true:=q
   rw[q]at hQ
   rw[z5q hM]
   exact hQ
  ·have q:decide (day < x)=false:=q
   rw[q]at hQ
   exact hQ
end
theorem x0i (ds:List Dcr):(brk ds).length≤2*ds.length:=by
 unfold brk
 rw[(z03 _).length_eq]
 have h1:∀ (k:Int) (ks:List Int),(z1k k ks).length≤ks.length+1:=fun k ks=>by unfold z1k;split<;>simp
 have:∀ (l:List Dcr) (ks:List Int),(z15 l ks).length≤ks.length+2*l.length:=by
  intro l
  induction l with
  | nil=>intro ks;simp[z15]
  | cons x l ih =>
   intro ks
   unfold z15
   refine Nat.le_trans (ih _) ?_
   rw[List.length_cons]
   split
   ·have:=h1 x.un (z1k x.fr ks)
    have:=h1 x.fr ks
    omega
   ·have:=h1 x.fr ks
    omega
 simpa using this ds []
theorem _root_.Go.Ev.ObjOk.bl {a c b:List AV}{n k nb:Nat}{id zo:Int}{es:List (AV×AV)}{ms:List Mst}{ds:List Dcr}(h:ObjOk a c b n k nb id zo es ms ds):(brk ds).length≤10000000:=by
 have:=x0i ds
 have:=h.dl
 omega
theorem cm147:CtM qB.c0 185 5 147 R147:=CtM.of_wp (B:=BM1) (l:=[]) (lm:=x5v) (tp:=[]) (ct:=[]) (sm:=[]) bm1ok (Cts.nil _) ⟨_,_,Tryz.func147,rfl⟩ fun rest cs es D r es' hR hD=>by
 unfold R147 at hR
 split at hR<;>cases hR
 rename_i day a n c k id zo b nb
 obtain ⟨ms,ds,hO⟩:=hD
 have hO2:=hO
 obtain ⟨rfl,rfl,rfl,rfl,rfl,rfl,-,-,-,-,-,hM⟩:=hO2
 refine ⟨z9e _,z6e ms ds id zo,hM.plain,hM.plain,fun _=>rfl,?_⟩
 show wpS X147 147 [.ptr 1 0,I day] (mBk ms ds id zo es) _
 rw[w1x,z1m]
 exact x61 hO.bl hM _ _ 0 (-1) rfl (Nat.zero_le _) ⟨rfl,rfl⟩
theorem cm145:CtM qB.c0 185 5 145 R145:=CtM.of_wp (B:=BM1) (l:=[]) (lm:=x5w) (tp:=[]) (ct:=[]) (sm:=[]) bm1ok (Cts.nil _) ⟨_,_,Tryz.func145,rfl⟩ fun rest cs es D r es' hR hD=>by
 unfold R145 at hR
 split at hR<;>cases hR
 rename_i day a n c k id zo b nb
 obtain ⟨ms,ds,hO⟩:=hD
 have hO2:=hO
 obtain ⟨rfl,rfl,rfl,rfl,rfl,rfl,-,-,-,-,-,hM⟩:=hO2
 refine ⟨z9e _,z6e ms ds id zo,hM.plain,hM.plain,fun _=>rfl,?_⟩
 show wpS X145 145 [.ptr 1 0,I day] (mBk ms ds id zo es) _
 rw[v145,z1m]
 exact x62 hO.bl hM _ _ 0 rfl (Nat.zero_le _) ⟨rfl,rfl⟩
def BM2:Base:=(BM1.hk 147 (z8m 185 5 R147)).hk 145 (z8m 185 5 R145)
theorem bm2ok:BaseOk BM2:=(bm1ok.hk (cm147.hook gtpB)).hk (cm145.hook gtpB)
end Go.Proofs
namespace Go.Ev
def SetOk (ts:List (AV×AV))(ks:List Int):Prop:=∃ l:List (Int×Bool),ts=l.map (fun e=>(I e.1,Bo e.2))∧l.map (·.1)=ks
theorem SetOk.nil:SetOk [] []:=⟨[],rfl,rfl⟩
theorem SetOk.kk {ts:List (AV×AV)}{ks:List Int}(h:SetOk ts ks)(k:Int):ts.all (fun x=>z09 (I k) x.1)=true:=by
 obtain ⟨l,rfl,_⟩:=h
 rw[List.all_eq_true]
 intro x hx
 obtain ⟨e,_,rfl⟩:=List.mem_map.1 hx
 rfl
theorem SetOk.blk {ts:List (AV×AV)}{ks:List Int}(h:SetOk ts ks)(n:Nat):okBlk n (some (.map ts))=true:=by
 obtain ⟨l,rfl,_⟩:=h
 simp only[okBlk,noHB,List.all_eq_true]
 intro x hx
 obtain ⟨e,_,rfl⟩:=List.mem_map.1 hx
 rfl
theorem y77 (k:Int)(b:Bool):∀ l:List (Int×Bool),∃ l':List (Int×Bool),z08 (I k) (Bo b) (l.map (fun e=>(I e.1,Bo e.2)))=l'.map (fun e=>(I e.1,Bo e.2))∧l'.map (·.1)=z1k k (l.map (·.1))
 | []=>⟨[(k,b)],rfl,rfl⟩
 | e::l=>by
  rw[List.map_cons]
  unfold z08
  split
  ·rename_i hk
   have:k=e.1:=by simpa[z2y] using hk
   refine ⟨(k,b)::l,rfl,?_⟩
   rw[List.map_cons,List.map_cons,z1k,if_pos (by simp[this]),this]
  ·rename_i hk
   have hk:¬ k=e.1:=by simpa[z2y] using hk
   obtain ⟨l',h1,h2⟩:=y77 k b l
   refine ⟨e::l',by rw[h1];rfl,?_⟩
   rw[List.map_cons,List.map_cons,h2,z1k,z1k]
   by_cases hm:k∈l.map (·.1)
   ·rw[if_pos hm,if_pos (List.mem_cons_of_mem _ hm)]
   ·rw[if_neg hm,if_neg (by rw[List.mem_cons];rintro (q | q);exact hk q;exact hm q)];rfl
theorem SetOk.put {ts:List (AV×AV)}{ks:List Int}(h:SetOk ts ks)(k:Int)(b:Bool):SetOk (z08 (I k) (Bo b) ts) (z1k k ks):=by
 obtain ⟨l,rfl,rfl⟩:=h
 obtain ⟨l',h1,h2⟩:=y77 k b l
 exact ⟨l',h1,h2⟩
theorem SetOk.keys {ts:List (AV×AV)}{ks:List Int}(h:SetOk ts ks)(hw:∀ k∈ks,i64 k):z4s ts=some ks:=by
 obtain ⟨l,rfl,rfl⟩:=h
 induction l with
 | nil=>rfl
 | cons e l ih =>
  have h1:=hw e.1 (by simp)
  have h2:=ih fun k hk=>hw k (by rw[List.map_cons];exact List.mem_cons_of_mem _ hk)
  rw[List.map_cons,List.map_cons]
  unfold z4s
  rw[if_pos (by simp[Lit.wf,IntKind.min,IntKind.max,IntKind.signed,IntKind.bits];exact h1),h2]
theorem y3c:∀ l:List Int,l.map (AV.int .i64)=z0a z0s l
 | []=>rfl
 | x::l=>by rw[List.map_cons,y3c l];rfl
theorem y8t {C:WCx}{g:FuncId}{fn:Func}{Q:CR→List (Option HB)→Prop}{env:Env}{s:St}{l:List AV}{n:Nat}{t:Tok}(hfn:C.P.funcs[g]?=some fn)(hres:z0v C.pc fn env s=some (.vs l n t))(hn:noHL 0 l=true)(hs:z0e 0 l=l)(hb:(s.hs.take C.bs).all (okBlk C.bs)=true)
  (hq:Q (.ret (.vs l n (t.scrub 0))) ((s.hs.take C.bs).map (Option.map (z0n 0)))):z05 C g Q EX.ret env s:=by
 unfold z05
 rw[hfn]
 simp only
 rw[hres]
 show z2b (pub C.pc s.hs C.bs (.vs l n t)) _
 have e1:pub C.pc s.hs C.bs (.vs l n t)=some (.vs l n t):=by simp[pub,noH,z5c (Nat.zero_le C.bs) l hn]
 rw[e1]
 show cIf _ _ _
 refine z0h hb ?_
 have e2:scrub 0 (.vs l n t)=.vs l n (t.scrub 0):=by simp[scrub,hs]
 rw[e2]
 exact hq
theorem y6y (k:Int)(ps:List Prt)(n:Nat)(j:Nat):∀ L:List (Int×List Prt),z0n 0 (.map (z08 (I k) (.vs (z0a z04 ps) n (.own j)) (z3c L)))=.map (z08 (I k) (.vs (z0a z04 ps) n .none) (z3c L))
 | []=>by simp[z3c,z08,z0n,scrub,ePr.scL,Tok.scrub]
 | e::L=>by
  have h0:z0n 0 (.map (z3c L))=.map (z3c L):=(MapOk.scrub (ds:=[]) (m:=⟨0,0⟩) (es:=z3c L) |> fun _=>by
   simp only[z0n,z3c,List.map_map]
   congr 1
   refine List.map_congr_left fun e _=>?_
   simp[Function.comp,scrub,vPr,ePr.scL,Tok.scrub])
  have ih:=y6y k ps n j L
  rw[y1j]
  unfold z08
  split
  ·simp only[z0n,map.injEq,List.map_cons]at h0 ⊢
   rw[h0]
   simp[scrub,ePr.scL,Tok.scrub]
  ·simp only[z0n,map.injEq,List.map_cons]at ih ⊢
   rw[ih]
   simp[scrub,vPr,ePr.scL,Tok.scrub]
theorem MapOk.scrubPut {ds:List Dcr}{m:Mst}{es:List (AV×AV)}(h:MapOk ds m es)(k:Int)(ps:List Prt)(n j:Nat):z0n 0 (.map (z08 (I k) (.vs (z0a z04 ps) n (.own j)) es))=.map (z08 (I k) (.vs (z0a z04 ps) n .none) es):=by
 obtain ⟨L,rfl,_⟩:=h
 exact y6y k ps n j L
theorem y8k {n:Nat}{k v:AV}(hk:noH n k=true)(hv:noH n v=true):∀ {es:List (AV×AV)},noHB n (.map es)=true→noHB n (.map (z08 k v es))=true
 | [],_=>by simp[z08,noHB,hk,hv]
 | e::es,h=>by
  simp only[noHB,List.all_cons,Bool.and_eq_true]at h
  unfold z08
  split
  ·simp only[noHB,List.all_cons,hk,hv,Bool.true_and];exact h.2
  ·have:=y8k hk hv (es:=es) h.2
   simp only[noHB,List.all_cons,h.1.1,h.1.2,Bool.true_and]at this ⊢
   exact this
theorem x3u {ds:List Dcr}(hd:∀ x∈ds,DecOk x)(m:Mst)(day:Int):∀ k∈z1p m day ds [0],i64 k:=by
 intro k hk
 rcases z3x.1 hk with h | ⟨x,hx,_,h⟩
 ·simp at h;subst h;constructor<;>decide
 ·have:=(hd x hx).o1
  have:=(hd x hx).o2
  have:=(hd x hx).o3
  unfold i64
  rcases h with rfl | rfl<;>omega
theorem y8v (k:Int)(ks:List Int):(z1k k ks).length≤ks.length+1:=by unfold z1k;split<;>simp
theorem y00 (m:Mst)(day:Int):∀ (l:List Dcr) (ks:List Int),(z1p m day l ks).length≤ks.length+2*l.length
 | [],ks=>by simp[z1p]
 | x::l,ks=>by
  unfold z1p
  refine Nat.le_trans (y00 m day l _) ?_
  rw[List.length_cons]
  split
  ·have h1:=y8v x.cl (z1k x.op ks)
   have h2:=y8v x.op ks
   omega
  ·omega
theorem x0l {ds:List Dcr}(hd:∀ x∈ds,DecOk x)(m:Mst)(day:Int):∃ tl,z1h (z1p m day ds [0])=0::tl:=by
 have h0:0∈z1h (z1p m day ds [0]):=(z03 _).mem_iff.2 (z3x.2 (.inl (by simp)))
 have hs:=z4z (z1p m day ds [0])
 cases h:z1h (z1p m day ds [0]) with
 | nil=>rw[h]at h0;cases h0
 | cons a tl =>
  rw[h]at h0 hs
  have ha:0≤a:=by
   have:a∈z1p m day ds [0]:=(z03 _).mem_iff.1 (by rw[h];simp)
   rcases z3x.1 this with q | ⟨x,hx,_,q⟩
   ·simp at q;omega
   ·have:=(hd x hx).o1
    have:=(hd x hx).o2
    rcases q with rfl | rfl<;>omega
  have:a=0:=by
   rcases List.mem_cons.1 h0 with q | q
   ·exact q.symm
   ·have:=(List.pairwise_cons.1 hs).1 0 q
    omega
  exact ⟨tl,by rw[this]⟩
end Go.Ev
