/- Contracts of functions of the program and of the reference. -/
import Derived.Test.YtdpfgjljehajbaaGreatDoorK8
set_option linter.unusedVariables false
set_option linter.unusedSimpArgs false
set_option linter.unusedSectionVars false
set_option maxRecDepth 100000
open Go.Ev.AV (vs ptr agg tup vp mp ofVal raw)
open Go.Ev.HB (cells map)
open Go.Ev.CR (ret)
open Go.IntKind (i64)
open List (drop replicate)
noncomputable section
namespace Go.Ev
def idF:List Dcr→Int→Int→Int
 | [],_,_=>-1
 | x::l,jd,i=>if x.id=jd then i else idF l jd (i+1)
def z13:Int→List Mst→Int
 | _,[]=>0
 | p,m::l=>if z4r m=false then 1 else if m.id < p then 1 else if m.id=p then 6 else z13 m.id l
def z5r:List Dcr→List Dcr→Int
 | _,[]=>0
 | pre,x::l=>if z7f x=false then 1 else if (pre.any fun y=>decide (y.id=x.id))=true then 6 else z5r (pre++[x]) l
def z1x (ms:List Mst)(ds:List Dcr):Int:=if ms.length > 40∨ds.length > 100 then 2 else if z13 0 ms≠0 then z13 0 ms else z5r [] ds
end Go.Ev
namespace Go.Proofs
open Go Go.Ev
def R161:Spc:=fun args=>match args with
 | [.vs l n tk,.fn (.func 113) [] [.vp [.int .i64 jd,.int .u8 _,.int .i64 _,.int .i64 _,.int .i64 _,.int .i64 _,.int .i64 _,.int .i64 _,.int .i64 _]]]=>some ((∃ x,l=z0a z0b x∧n=x.length∧x.length≤1000)∧tk=.none,rI (z0c (z0a z0b) (fun x=>idF x jd 0) 0 l))
 | _=>none
def R112:Spc:=fun args=>match args with
 | [.vs l n tk,.fn (.func 113) [] [.vp [.int .i64 jd,.int .u8 _,.int .i64 _,.int .i64 _,.int .i64 _,.int .i64 _,.int .i64 _,.int .i64 _,.int .i64 _]]]=>some ((∃ x,l=z0a z0b x∧n=x.length∧x.length≤1000)∧tk=.none,rB (z0c (z0a z0b) (fun x=>x.any fun y=>decide (y.id=jd)) false l))
 | _=>none
def R45:Spc:=fun args=>match args with
 | [.agg [.vs l n .none,.vs c k .none]]=>some (∃ ms ds,l=z0a z0d ms∧n=ms.length∧c=z0a z0b ds∧k=ds.length∧ms.length≤10000000∧ds.length≤10000000,rI (z0c (z0a z0d) (fun ms=>z0c (z0a z0b) (fun ds=>z1x ms ds) 0 c) 0 l))
 | _=>none
def x5s:List (Nat×List Nat):=[(2,[0,1,7,8]),(7,[])]
def X161:WCx:=qB.wcx [(113,R113)] x5s [] [] []
def x57:List (Nat×List Nat):=[]
def X112:WCx:=qB.wcx [(161,R161)] x57 [] [] []
def x8y:List (Nat×List Nat):=[(4,[1,3]),(11,[1]),(12,[1,5]),(13,[1,5]),(18,[1,5,7]),(22,[])]
def X46:WCx:=qB.wcx [(114,R111),(99,R95)] x8y [] [] []
theorem w1v (l:List AV)(n:Nat)(jd j1 j2 j3 j4 j5 j6 j7 j8:Int)(Q:CR→Prop):wpF X161 161 [.vs l n .none,.fn (.func 113) [] [.vp [I jd,U j1,I j2,I j3,I j4,I j5,I j6,I j7,I j8]]] Q =
 (z0l X161 (cd X161.P 161 [1,0,1,0,0]) ([vs l n .none,AV.fn (Fn.func 113) [] [vp [I jd,U j1,I j2,I j3,I j4,I j5,I j6,I j7,I j8]],X,X,X,X,X,I n,I 0]++replicate 10 X) (St.mk [] [] []) (z0g 0 (z0k X161 (cd X161.P 161 [1,1]) (z0q X161 161 Q)))):=by kernel_rfl
theorem x5h (l:List AV)(n i:Nat)(jd j1 j2 j3 j4 j5 j6 j7 j8:Int)(Q:CR→Prop):wpC X161 (cd PP 161 [1,0,1,0,0]) ([.vs l n .none,.fn (.func 113) [] [.vp [I jd,U j1,I j2,I j3,I j4,I j5,I j6,I j7,I j8]],X,X,X,X,X,I n,I i]++replicate 10 X) ⟨[],[],[]⟩ (z1i X161 (cd PP 161 [1,0,1,0,0]) (z0g 0 (z0k X161 (cd PP 161 [1,1]) (z0q X161 161 Q)))) =
 (cIf (decide ((↑i:Int) < (↑n:Int))) (cIf (decide (i < n)) (cIf (decide (n*9=l.length)) (cIf (decide (9≤(drop (i*9) l).length)) (cIf (like [I 0,U 0,I 0,I 0,I 0,I 0,I 0,I 0,I 0] (el (drop (i*9) l) 0 9)) (True∧cIf (decide (cI (el (drop (i*9) l) 0 9) 0=jd)) (Q (ret (I i))) (z0l X161 (cd PP 161 [1,0,1,0,0]) ([vs l n .none,AV.fn (Fn.func 113) [] [vp [I jd,U j1,I j2,I j3,I j4,I j5,I j6,I j7,I j8]],X,X,X,X,X,I n,I (IntKind.i64.wrap ((↑i:Int)+1))]++replicate 10 X) (St.mk [] [] []) (z0g 0 (z0k X161 (cd PP 161 [1,1]) (z0q X161 161 Q))))) False) False) False) False) (Q (ret (I (-1))))):=by kernel_rfl
theorem w19 (l:List AV)(n:Nat)(jd j1 j2 j3 j4 j5 j6 j7 j8:Int)(Q:CR→Prop):wpF X112 112 [.vs l n .none,.fn (.func 113) [] [.vp [I jd,U j1,I j2,I j3,I j4,I j5,I j6,I j7,I j8]]] Q =
 (((∃ x,l=z0a z0b x∧n=x.length∧x.length≤1000)∧Tok.none=Tok.none)∧Q (ret (Bo (decide (z0c (z0a z0b) (fun x=>idF x jd 0) 0 l≥0))))):=by kernel_rfl
theorem v46 (l c:List AV)(n k:Nat)(Q:CR→Prop):wpF X46 46 [.agg [.vs l n .none,.vs c k .none]] Q =
 (cIf (decide ((↑n:Int) > 40)) (Q (ret (I 2))) (cIf (decide ((↑k:Int) > 100)) (Q (ret (I 2))) (z0l X46 (cd X46.P 46 [1,1,0,1,0,0]) ([X,ptr 0 0,X,I 0]++replicate 100 X) (St.mk [some (cells [vs l n .none,vs c k .none] 25)] [] []) (z0g 0 (z0k X46 (cd X46.P 46 [1,1,1]) (z0q X46 46 Q)))))):=by kernel_rfl
end Go.Proofs
namespace Go.Ev
theorem x0d (jd:Int):∀ (l:List Dcr) (i:Int),0≤i→decide (idF l jd i≥0)=l.any fun y=>decide (y.id=jd)
 | [],i,h=>by simp[idF]
 | x::l,i,h=>by
  simp only[idF,List.any_cons]
  split
  ·rename_i hc
   simp[hc,h]
  ·rename_i hc
   rw[x0d jd l (i+1) (by omega)]
   simp[hc]
end Go.Ev
namespace Go.Proofs
open Go Go.Ev
attribute [local irreducible] wpF wpC cd
theorem x1m:Ct qB.c0 113 R113:=Ct.of_wp (lm:=x56) (tp:=[]) (ct:=[]) (sm:=[]) bok (Cts.nil _) ⟨_,_,Tryz.func113,rfl⟩ fun args D r hR hD=>by
 unfold R113 at hR
 split at hR<;>cases hR
 rename_i id ki ma st ra fr un op cl jd j1 j2 j3 j4 j5 j6 j7 j8
 refine ⟨rfl,?_⟩
 simp only[z0e,scrub]
 show wpF X113 113 _ _
 rw[w18]
 refine congrArg (fun b=>ret (Bo b)) ?_
 show (id == jd)=decide (id=jd)
 rfl
section
variable {xs:List Dcr}(hl:xs.length≤1000){jd j1 j2 j3 j4 j5 j6 j7 j8:Int}
include hl
theorem x60 (Q:CR→Prop):∀ (d i:Nat),xs.length-i=d→i≤xs.length→Q (rI (idF (xs.drop i) jd i)) →
  z0l X161 (cd PP 161 [1,0,1,0,0]) ([.vs (z0a z0b xs) xs.length .none,.fn (.func 113) [] [.vp [I jd,U j1,I j2,I j3,I j4,I j5,I j6,I j7,I j8]],X,X,X,X,X,I xs.length,I i]++replicate 10 X) ⟨[],[],[]⟩ (z0g 0 (z0k X161 (cd PP 161 [1,1]) (z0q X161 161 Q))):=by
 intro d
 induction d with
 | zero =>
  intro i hd hi hQ
  have hi':i=xs.length:=by omega
  subst hi'
  have hno:¬ ((xs.length:Nat):Int) < (xs.length:Nat):=by omega
  rw[List.drop_length]at hQ
  exact z0y bok ((Cts.nil _).cons x1m) ((x5h _ _ _ jd j1 j2 j3 j4 j5 j6 j7 j8 Q).mpr (z02 (df hno) hQ))
 | succ d ih =>
  intro i hd hi hQ
  have hlt:i < xs.length:=by omega
  have e1:xs.length-(i+1)=d:=by omega
  have w1:IntKind.i64.wrap ((i:Int)+1)=((i+1:Nat):Int):=z1c (by omega) (by omega)
  have h1:(i:Int) < xs.length:=by omega
  obtain ⟨x,hx,hdr⟩:=z06 hlt
  rw[hdr]at hQ
  refine z0y bok ((Cts.nil _).cons x1m) ((x5h _ _ _ jd j1 j2 j3 j4 j5 j6 j7 j8 Q).mpr ?_)
  simp only[dt h1,dt hlt,eD.gl,eD.gd hlt,eD.g0 hlt (by decide),eD.el hx,eD.ld0 hx (by decide),z16,eD.cI0 hx (by decide),z2t,z4j,eD.gf hlt 1 (by decide),eD.ld hx 1 (by decide),eD.cI hx 1 (by decide),z2s,z4i,eD.gf hlt 2 (by decide),eD.ld hx 2 (by decide),eD.cI hx 2 (by decide),z2r,z4h,eD.gf hlt 3 (by decide),eD.ld hx 3 (by decide),eD.cI hx 3 (by decide),z2q,z4g,eD.gf hlt 4 (by decide),eD.ld hx 4 (by decide),eD.cI hx 4 (by decide),z2p,z4f,eD.gf hlt 5 (by decide),eD.ld hx 5 (by decide),eD.cI hx 5 (by decide),z2o,z4e,eD.gf hlt 6 (by decide),eD.ld hx 6 (by decide),eD.cI hx 6 (by decide),z2n,z4d,eD.gf hlt 7 (by decide),eD.ld hx 7 (by decide),eD.cI hx 7 (by decide),z2m,z4c,eD.gf hlt 8 (by decide),eD.ld hx 8 (by decide),eD.cI hx 8 (by decide),z2l,z4b,z0x,w1,true_and]
  refine z0i (fun h=>?_) (fun h=>?_)
  ·have h:x.id=jd:=by simpa using h
   rw[show idF (x::xs.drop (i+1)) jd i=i by unfold idF;rw[if_pos h]]at hQ
   exact hQ
  ·have h:¬ x.id=jd:=by simpa using h
   refine ih (i+1) e1 hlt ?_
   rw[show idF (x::xs.drop (i+1)) jd i=idF (xs.drop (i+1)) jd ((i+1:Nat):Int) by simp[idF,h]]at hQ
   exact hQ
end
theorem w03:Ct qB.c0 161 R161:=Ct.of_wp (l:=[(113,R113)]) (lm:=x5s) (tp:=[]) (ct:=[]) (sm:=[]) bok ((Cts.nil _).cons x1m) ⟨_,_,Tryz.func161,rfl⟩ fun args D r hR hD=>by
 unfold R161 at hR
 split at hR<;>cases hR
 rename_i l n tk jd j1 j2 j3 j4 j5 j6 j7 j8
 obtain ⟨⟨xs,rfl,rfl,hx⟩,rfl⟩:=hD
 refine ⟨by simp[noHL,noH,eD.noHL'],?_⟩
 rw[show z0e 0 [vs (z0a z0b xs) xs.length .none,.fn (.func 113) [] [.vp [I jd,U j1,I j2,I j3,I j4,I j5,I j6,I j7,I j8]]]=[vs (z0a z0b xs) xs.length .none,.fn (.func 113) [] [.vp [I jd,U j1,I j2,I j3,I j4,I j5,I j6,I j7,I j8]]] by simp[z0e,scrub,eD.scL,Tok.scrub],eD.on (by decide)]
 show wpF X161 161 _ _
 rw[w1v]
 exact x60 hx _ _ 0 rfl (Nat.zero_le _) rfl
theorem ct112:Ct qB.c0 112 R112:=Ct.of_wp (l:=[(161,R161)]) (lm:=x57) (tp:=[]) (ct:=[]) (sm:=[]) bok ((Cts.nil _).cons w03) ⟨_,_,Tryz.func112,rfl⟩ fun args D r hR hD=>by
 unfold R112 at hR
 split at hR<;>cases hR
 rename_i l n tk jd j1 j2 j3 j4 j5 j6 j7 j8
 obtain ⟨⟨xs,rfl,rfl,hx⟩,rfl⟩:=hD
 refine ⟨by simp[noHL,noH,eD.noHL'],?_⟩
 rw[show z0e 0 [vs (z0a z0b xs) xs.length .none,.fn (.func 113) [] [.vp [I jd,U j1,I j2,I j3,I j4,I j5,I j6,I j7,I j8]]]=[vs (z0a z0b xs) xs.length .none,.fn (.func 113) [] [.vp [I jd,U j1,I j2,I j3,I j4,I j5,I j6,I j7,I j8]]] by simp[z0e,scrub,eD.scL,Tok.scrub],eD.on (by decide)]
 show wpF X112 112 _ _
 rw[w19]
 refine ⟨⟨⟨xs,rfl,rfl,hx⟩,rfl⟩,?_⟩
 rw[eD.on (by decide),x0d _ _ 0 (Int.le_refl 0)]
theorem x7c:HookOk qB.c0 112 (z7t R112):=ct112.hookS gtpB fun args D r hR hD=>by
 unfold R112 at hR
 split at hR<;>cases hR
 rename_i l n tk jd j1 j2 j3 j4 j5 j6 j7 j8
 obtain ⟨⟨xs,rfl,rfl,hx⟩,rfl⟩:=hD
 simp[z0e,scrub,eD.scL,Tok.scrub]
def BH:Base:=qB.hk 112 (z7t R112)
theorem bhok:BaseOk BH:=bok.hk x7c
end Go.Proofs
--BASE BH
namespace Go.Proofs
open Go Go.Ev
def x8z:List (Nat×List Nat):=[(4,[1,18,19,20]),(11,[1]),(12,[1,62,63,64]),(19,[])]
def X45:WCx:=BH.wcx [(111,R111),(95,R95)] x8z [] [] [(4,1),(11,1),(12,1)]
theorem v45 (l c:List AV)(n k:Nat)(Q:CR→Prop):wpF X45 45 [.agg [.vs l n .none,.vs c k .none]] Q =
 (cIf (decide ((↑n:Int) > 40)) (Q (ret (I 2))) (cIf (decide ((↑k:Int) > 100)) (Q (ret (I 2))) (cIf (noHL 1 ([X,ptr 0 0,X,X,X,X,X,X,X,X,X,X,X,X,X,X,X,X,vs l n .none,I n,I 0]++replicate 60 X)) (cIf ([some (cells [vs l n .none,vs c k .none] 25)].all (okBlk 1)) (z0l X45 (cd X45.P 45 [1,1,0,1,0,0]) ([X,ptr 0 0,X,X,X,X,X,X,X,X,X,X,X,X,X,X,X,X,vs l n .none,I n,I 0]++replicate 60 X) (St.mk [some (cells [vs l n .none,vs c k .none] 25)] [] []) (z0g 0 (z0k X45 (cd X45.P 45 [1,1,1]) (z0q X45 45 Q)))) False) False))):=by kernel_rfl
theorem x72 (l c:List AV)(n k i:Nat)(Q:CR→Prop):wpC X45 (cd PP 45 [1,1,0,1,0,0]) ([X,.ptr 0 0,X,X,X,X,X,X,X,X,X,X,X,X,X,X,X,X,.vs l n .none,I n,I i]++replicate 60 X) ⟨[some (.cells [.vs l n .none,.vs c k .none] 25)],[],[]⟩ (z1i X45 (cd PP 45 [1,1,0,1,0,0]) (z0g 0 (z0k X45 (cd PP 45 [1,1,1]) (z0q X45 45 Q)))) =
 (cIf (decide ((↑i:Int) < (↑n:Int))) (cIf (decide (i < n)) (cIf (decide (n*2=l.length)) (cIf (decide (2≤(drop (i*2) l).length)) (cIf (like [I 0,I 0] (el (drop (i*2) l) 0 2)) (True∧St.mk [some (cells [vs l n .none,vs c k .none] 25),some (cells [I (cI (el (drop (i*2) l) 0 2) 0),I (cI (el (drop (i*2) l) 0 2) 1)] 58)] [] [1]=St.mk [some (cells [vs l n .none,vs c k .none] 25),some (cells [I (cI (el (drop (i*2) l) 0 2) 0),I (cI (el (drop (i*2) l) 0 2) 1)] 58)] [] [1]∧cIf (!z4r (Mst.mk (cI (el (drop (i*2) l) 0 2) 0) (cI (el (drop (i*2) l) 0 2) 1))) (Q (ret (I 1))) (cIf (decide ((↑i:Int) > 0)) (cIf (decide ((0:Int)≤IntKind.i64.wrap ((↑i:Int)-1))) (cIf (decide ((IntKind.i64.wrap ((↑i:Int)-1)).toNat < n)) (cIf (decide (n*2=l.length)) (cIf (decide (0 < (drop ((IntKind.i64.wrap ((↑i:Int)-1)).toNat*2) l).length)) (cIf (z0t (ofVal (Value.int IntKind.i64 0)) ((drop ((IntKind.i64.wrap ((↑i:Int)-1)).toNat*2) l).getD 0 X)) (cIf (decide (cI (el (drop (i*2) l) 0 2) 0 < cI (drop ((IntKind.i64.wrap ((↑i:Int)-1)).toNat*2) l) 0)) (Q (ret (I 1))) (cIf (decide ((↑i:Int) > 0)) (cIf (decide ((0:Int)≤IntKind.i64.wrap ((↑i:Int)-1))) (cIf (decide ((IntKind.i64.wrap ((↑i:Int)-1)).toNat < n)) (cIf (decide (n*2=l.length)) (cIf (decide (0 < (drop ((IntKind.i64.wrap ((↑i:Int)-1)).toNat*2) l).length)) (cIf (z0t (ofVal (Value.int IntKind.i64 0)) ((drop ((IntKind.i64.wrap ((↑i:Int)-1)).toNat*2) l).getD 0 X)) (cIf (cI (el (drop (i*2) l) 0 2) 0 == cI (drop ((IntKind.i64.wrap ((↑i:Int)-1)).toNat*2) l) 0) (Q (ret (I 6))) (cIf (noHL 1 ([X,ptr 0 0,X,X,X,X,X,X,X,X,X,X,X,X,X,X,X,X,vs l n .none,I n,I (IntKind.i64.wrap ((↑i:Int)+1))]++replicate 60 X)) (cIf ([some (cells [vs l n .none,vs c k .none] 25)].all (okBlk 1)) (z0l X45 (cd PP 45 [1,1,0,1,0,0]) ([X,ptr 0 0,X,X,X,X,X,X,X,X,X,X,X,X,X,X,X,X,vs l n .none,I n,I (IntKind.i64.wrap ((↑i:Int)+1))]++replicate 60 X) (St.mk [some (cells [vs l n .none,vs c k .none] 25)] [] []) (z0g 0 (z0k X45 (cd PP 45 [1,1,1]) (z0q X45 45 Q)))) False) False)) False) False) False) False) False) (cIf (noHL 1 ([X,ptr 0 0,X,X,X,X,X,X,X,X,X,X,X,X,X,X,X,X,vs l n .none,I n,I (IntKind.i64.wrap ((↑i:Int)+1))]++replicate 60 X)) (cIf ([some (cells [vs l n .none,vs c k .none] 25)].all (okBlk 1)) (z0l X45 (cd PP 45 [1,1,0,1,0,0]) ([X,ptr 0 0,X,X,X,X,X,X,X,X,X,X,X,X,X,X,X,X,vs l n .none,I n,I (IntKind.i64.wrap ((↑i:Int)+1))]++replicate 60 X) (St.mk [some (cells [vs l n .none,vs c k .none] 25)] [] []) (z0g 0 (z0k X45 (cd PP 45 [1,1,1]) (z0q X45 45 Q)))) False) False))) False) False) False) False) False) (cIf (decide ((↑i:Int) > 0)) (cIf (decide ((0:Int)≤IntKind.i64.wrap ((↑i:Int)-1))) (cIf (decide ((IntKind.i64.wrap ((↑i:Int)-1)).toNat < n)) (cIf (decide (n*2=l.length)) (cIf (decide (0 < (drop ((IntKind.i64.wrap ((↑i:Int)-1)).toNat*2) l).length)) (cIf (z0t (ofVal (Value.int IntKind.i64 0)) ((drop ((IntKind.i64.wrap ((↑i:Int)-1)).toNat*2) l).getD 0 X)) (cIf (cI (el (drop (i*2) l) 0 2) 0 == cI (drop ((IntKind.i64.wrap ((↑i:Int)-1)).toNat*2) l) 0) (Q (ret (I 6))) (cIf (noHL 1 ([X,ptr 0 0,X,X,X,X,X,X,X,X,X,X,X,X,X,X,X,X,vs l n .none,I n,I (IntKind.i64.wrap ((↑i:Int)+1))]++replicate 60 X)) (cIf ([some (cells [vs l n .none,vs c k .none] 25)].all (okBlk 1)) (z0l X45 (cd PP 45 [1,1,0,1,0,0]) ([X,ptr 0 0,X,X,X,X,X,X,X,X,X,X,X,X,X,X,X,X,vs l n .none,I n,I (IntKind.i64.wrap ((↑i:Int)+1))]++replicate 60 X) (St.mk [some (cells [vs l n .none,vs c k .none] 25)] [] []) (z0g 0 (z0k X45 (cd PP 45 [1,1,1]) (z0q X45 45 Q)))) False) False)) False) False) False) False) False) (cIf (noHL 1 ([X,ptr 0 0,X,X,X,X,X,X,X,X,X,X,X,X,X,X,X,X,vs l n .none,I n,I (IntKind.i64.wrap ((↑i:Int)+1))]++replicate 60 X)) (cIf ([some (cells [vs l n .none,vs c k .none] 25)].all (okBlk 1)) (z0l X45 (cd PP 45 [1,1,0,1,0,0]) ([X,ptr 0 0,X,X,X,X,X,X,X,X,X,X,X,X,X,X,X,X,vs l n .none,I n,I (IntKind.i64.wrap ((↑i:Int)+1))]++replicate 60 X) (St.mk [some (cells [vs l n .none,vs c k .none] 25)] [] []) (z0g 0 (z0k X45 (cd PP 45 [1,1,1]) (z0q X45 45 Q)))) False) False)))) False) False) False) False) (cIf (noHL 1 ([X,ptr 0 0,X,X,X,X,X,X,X,X,X,X,X,X,X,X,X,X,X,X,X,X,X,X,X,X,X,X,X,X,X,X,X,X,X,X,X,X,X,X,X,X,X,X,X,X,X,X,X,X,X,X,X,X,X,X,X,X,X,X,X,X,vs c k .none,I k,I 0]++replicate 16 X)) (cIf ([some (cells [vs l n .none,vs c k .none] 25)].all (okBlk 1)) (z0l X45 (cd PP 45 [1,1,1,0,1,0,0]) ([X,ptr 0 0,X,X,X,X,X,X,X,X,X,X,X,X,X,X,X,X,X,X,X,X,X,X,X,X,X,X,X,X,X,X,X,X,X,X,X,X,X,X,X,X,X,X,X,X,X,X,X,X,X,X,X,X,X,X,X,X,X,X,X,X,vs c k .none,I k,I 0]++replicate 16 X) (St.mk [some (cells [vs l n .none,vs c k .none] 25)] [] []) (z0g 3 (z0k X45 (cd PP 45 [1,1,1,1]) (z0q X45 45 Q)))) False) False)):=by kernel_rfl
theorem x5e (l c:List AV)(n k i:Nat)(Q:CR→Prop):wpC X45 (cd PP 45 [1,1,1,0,1,0,0]) ([X,.ptr 0 0,X,X,X,X,X,X,X,X,X,X,X,X,X,X,X,X,X,X,X,X,X,X,X,X,X,X,X,X,X,X,X,X,X,X,X,X,X,X,X,X,X,X,X,X,X,X,X,X,X,X,X,X,X,X,X,X,X,X,X,X,.vs c k .none,I k,I i]++replicate 16 X) ⟨[some (.cells [.vs l n .none,.vs c k .none] 25)],[],[]⟩ (z1i X45 (cd PP 45 [1,1,1,0,1,0,0]) (z0g 3 (z0k X45 (cd PP 45 [1,1,1,1]) (z0q X45 45 Q)))) =
 (cIf (decide ((↑i:Int) < (↑k:Int))) (cIf (decide (i < k)) (cIf (decide (k*9=c.length)) (cIf (decide (9≤(drop (i*9) c).length)) (cIf (like [I 0,U 0,I 0,I 0,I 0,I 0,I 0,I 0,I 0] (el (drop (i*9) c) 0 9)) (True∧cIf (!z7f (Dcr.mk (cI (el (drop (i*9) c) 0 9) 0) (cI (el (drop (i*9) c) 0 9) 1) (cI (el (drop (i*9) c) 0 9) 2) (cI (el (drop (i*9) c) 0 9) 3) (cI (el (drop (i*9) c) 0 9) 4) (cI (el (drop (i*9) c) 0 9) 5) (cI (el (drop (i*9) c) 0 9) 6) (cI (el (drop (i*9) c) 0 9) 7) (cI (el (drop (i*9) c) 0 9) 8))) (Q (ret (I 1))) (cIf (decide (i≤k)) (((∃ x,List.take ((i-0)*9) c=z0a z0b x∧i-0=x.length∧x.length≤1000)∧Tok.none=Tok.none)∧(y4g (rB (z0c (z0a z0b) (fun x=>x.any fun (y:Dcr)=>decide (y.id=cI (el (drop (i*9) c) 0 9) 0)) false (List.take ((i-0)*9) c)))=true∧z3b [some (cells [vs l n .none,vs c k .none] 25),some (cells [I (cI (el (drop (i*9) c) 0 9) 0),U (cI (el (drop (i*9) c) 0 9) 1),I (cI (el (drop (i*9) c) 0 9) 2),I (cI (el (drop (i*9) c) 0 9) 3),I (cI (el (drop (i*9) c) 0 9) 4),I (cI (el (drop (i*9) c) 0 9) 5),I (cI (el (drop (i*9) c) 0 9) 6),I (cI (el (drop (i*9) c) 0 9) 7),I (cI (el (drop (i*9) c) 0 9) 8)] 46)] ([]++[vs (List.take ((i-0)*9) c) (i-0) (if 0=0∧i=k then .none else .none),AV.fn (Fn.func 113) [] [ptr 1 0]]++[])=true)∧cIf (z0c (z0a z0b) (fun x=>x.any fun (y:Dcr)=>decide (y.id=cI (el (drop (i*9) c) 0 9) 0)) false (List.take ((i-0)*9) c)) (Q (ret (I 6))) (cIf (noHL 1 ([X,ptr 0 0,X,X,X,X,X,X,X,X,X,X,X,X,X,X,X,X,X,X,X,X,X,X,X,X,X,X,X,X,X,X,X,X,X,X,X,X,X,X,X,X,X,X,X,X,X,X,X,X,X,X,X,X,X,X,X,X,X,X,X,X,vs c k .none,I k,I (IntKind.i64.wrap ((↑i:Int)+1))]++replicate 16 X)) (cIf ([some (cells [vs l n .none,vs c k .none] 25)].all (okBlk 1)) (z0l X45 (cd PP 45 [1,1,1,0,1,0,0]) ([X,ptr 0 0,X,X,X,X,X,X,X,X,X,X,X,X,X,X,X,X,X,X,X,X,X,X,X,X,X,X,X,X,X,X,X,X,X,X,X,X,X,X,X,X,X,X,X,X,X,X,X,X,X,X,X,X,X,X,X,X,X,X,X,X,vs c k .none,I k,I (IntKind.i64.wrap ((↑i:Int)+1))]++replicate 16 X) (St.mk [some (cells [vs l n .none,vs c k .none] 25)] [] []) (z0g 3 (z0k X45 (cd PP 45 [1,1,1,1]) (z0q X45 45 Q)))) False) False)) False)) False) False) False) False) (Q (ret (I 0)))):=by kernel_rfl
end Go.Proofs
namespace Go.Ev
theorem y99 {p:Int}{x:Mst}{l:List Mst}(h:z4r x=false):z13 p (x::l)=1:=by unfold z13;rw[if_pos h]
theorem x2x {p:Int}{x:Mst}{l:List Mst}(h:z4r x=true)(h2:x.id < p):z13 p (x::l)=1:=by unfold z13;rw[if_neg (by rw[h];decide),if_pos h2]
theorem x2z {p:Int}{x:Mst}{l:List Mst}(h:z4r x=true)(h2:x.id=p):z13 p (x::l)=6:=by unfold z13;rw[if_neg (by rw[h];decide),if_neg (by omega),if_pos h2]
theorem x2y {p:Int}{x:Mst}{l:List Mst}(h:z4r x=true)(h2:p < x.id):z13 p (x::l)=z13 x.id l:=by
 conv=>lhs;unfold z13
 rw[if_neg (by rw[h];decide),if_neg (by omega),if_neg (by omega)]
theorem x0f {pre l:List Dcr}{x:Dcr}(h:z7f x=false):z5r pre (x::l)=1:=by unfold z5r;rw[if_pos h]
theorem x0e {pre l:List Dcr}{x:Dcr}(h:z7f x=true)(h2:(pre.any fun y=>decide (y.id=x.id))=true):z5r pre (x::l)=6:=by unfold z5r;rw[if_neg (by rw[h];decide),if_pos h2]
theorem x3c {pre l:List Dcr}{x:Dcr}(h:z7f x=true)(h2:(pre.any fun y=>decide (y.id=x.id))=false):z5r pre (x::l)=z5r (pre++[x]) l:=by
 conv=>lhs;unfold z5r
 rw[if_neg (by rw[h];decide),if_neg (by rw[h2];decide)]
theorem y8j:∀ l:List Dcr,z1y 0 (z0a z0b l)=true
 | []=>rfl
 | x::l=>by
  show z1y 0 (z0b x++z0a z0b l)=true
  exact y8j l
theorem y5t {ms:List Mst}{ds:List Dcr}:[some (cells [vs (z0a z0d ms) ms.length .none,vs (z0a z0b ds) ds.length .none] 25)].all (okBlk 1)=true:=by
 simp[okBlk,noHB,noHL,noH,eM.noHL',eD.noHL']
end Go.Ev
namespace Go.Proofs
open Go Go.Ev
attribute [local irreducible] wpF wpC cd
section
variable {ms:List Mst}{ds:List Dcr}(hm:ms.length≤10000000)(hd1:ds.length≤1000)
include hm hd1
theorem m45 (Q:CR→Prop):∀ (d i:Nat) (p:Int),ms.length-i=d→i≤ms.length→(i=0→p=0)→(∀ y,0 < i→ms[i-1]?=some y→p=y.id)→(z13 p (ms.drop i)≠0→Q (rI (z13 p (ms.drop i))))→(z13 p (ms.drop i)=0→z0l X45 (cd PP 45 [1,1,1,0,1,0,0]) ([X,.ptr 0 0,X,X,X,X,X,X,X,X,X,X,X,X,X,X,X,X,X,X,X,X,X,X,X,X,X,X,X,X,X,X,X,X,X,X,X,X,X,X,X,X,X,X,X,X,X,X,X,X,X,X,X,X,X,X,X,X,X,X,X,X,.vs (z0a z0b ds) ds.length .none,I ds.length,I (0:Nat)]++replicate 16 X) ⟨[some (.cells [.vs (z0a z0d ms) ms.length .none,.vs (z0a z0b ds) ds.length .none] 25)],[],[]⟩ (z0g 3 (z0k X45 (cd PP 45 [1,1,1,1]) (z0q X45 45 Q)))) →
  z0l X45 (cd PP 45 [1,1,0,1,0,0]) ([X,.ptr 0 0,X,X,X,X,X,X,X,X,X,X,X,X,X,X,X,X,.vs (z0a z0d ms) ms.length .none,I ms.length,I i]++replicate 60 X) ⟨[some (.cells [.vs (z0a z0d ms) ms.length .none,.vs (z0a z0b ds) ds.length .none] 25)],[],[]⟩ (z0g 0 (z0k X45 (cd PP 45 [1,1,1]) (z0q X45 45 Q))):=by
 intro d
 induction d with
 | zero =>
  intro i p hd hi hp0 hp1 hQ hc
  have hi':i=ms.length:=by omega
  subst hi'
  have hno:¬ ((ms.length:Nat):Int) < (ms.length:Nat):=by omega
  have hQ0:z13 p (ms.drop ms.length)=0:=by rw[List.drop_length];rfl
  refine z0y bhok (((Cts.nil BH).cons (g:=95) y9a).cons (g:=111) y5n) ((x72 (z0a z0d ms) (z0a z0b ds) ms.length ds.length ms.length Q).mpr (z02 (df hno) ?_))
  exact z0h (by simp[z00,noHL,noH,eM.noHL',eD.noHL',z1r]) (z0h y5t (hc hQ0))
 | succ d ih =>
  intro i p hd hi hp0 hp1 hQ hc
  have hlt:i < ms.length:=by omega
  have e1:ms.length-(i+1)=d:=by omega
  have w1:IntKind.i64.wrap ((i:Int)+1)=((i+1:Nat):Int):=z1c (by omega) (by omega)
  have h1:(i:Int) < ms.length:=by omega
  obtain ⟨x,hx,hdr⟩:=z06 hlt
  rw[hdr]at hQ hc
  refine z0y bhok (((Cts.nil BH).cons (g:=95) y9a).cons (g:=111) y5n) ((x72 (z0a z0d ms) (z0a z0b ds) ms.length ds.length i Q).mpr ?_)
  simp only[dt h1,dt hlt,eM.gl,eM.gd hlt,eM.g0 hlt (by decide),eM.el hx,eM.ld0 hx (by decide),z9p,eM.cI0 hx (by decide),y1u,y40,eM.gf hlt 1 (by decide),eM.ld hx 1 (by decide),eM.cI hx 1 (by decide),y1t,y4z,z0x,w1]
  have eX:Mst.mk x.id x.zo=x:=rfl
  refine ⟨trivial,trivial,z0i (fun hb=>?_) (fun hb=>?_)⟩
  ·have hb:z4r x=false:=by simpa using hb
   rw[y99 hb]at hQ
   exact hQ (by decide)
  have hb:z4r x=true:=by simpa using hb
  have hid:1≤x.id:=by
   have:=hb
   simp[z4r,idB]at this
   omega
  have next:p < x.id→z0l X45 (cd PP 45 [1,1,0,1,0,0]) ([X,.ptr 0 0,X,X,X,X,X,X,X,X,X,X,X,X,X,X,X,X,.vs (z0a z0d ms) ms.length .none,I ms.length,I (i+1:Nat)]++replicate 60 X) ⟨[some (.cells [.vs (z0a z0d ms) ms.length .none,.vs (z0a z0b ds) ds.length .none] 25)],[],[]⟩ (z0g 0 (z0k X45 (cd PP 45 [1,1,1]) (z0q X45 45 Q))):=fun hlt2=>by
   rw[x2y hb hlt2]at hQ hc
   exact ih (i+1) x.id e1 hlt (fun h=>by omega) (fun y _ hy=>by
    rw[Nat.add_sub_cancel,hx]at hy
    cases hy;rfl) hQ hc
  rcases Nat.eq_zero_or_pos i with h0 | h0
  ·have hp:=hp0 h0
   have hni:¬ (i:Int) > 0:=by omega
   simp only[df hni,z6s]
   exact z0h (by simp[z00,noHL,noH,eM.noHL',eD.noHL',z1r]) (z0h y5t (next (by omega)))
  ·have hpi:(i:Int) > 0:=by omega
   have hlt2:i-1 < ms.length:=by omega
   obtain ⟨y,hy⟩:∃ y,ms[i-1]?=some y:=⟨_,List.getElem?_eq_getElem hlt2⟩
   have hp:=hp1 y h0 hy
   have w2:IntKind.i64.wrap ((i:Int)-1)=((i-1:Nat):Int):=by
    rw[show (i:Int)-1=((i-1:Nat):Int) by omega]
    exact z1c (by omega) (by omega)
   simp only[dt hpi,w2,dt (Int.natCast_nonneg (i-1)),Int.toNat_natCast,dt hlt2,eM.gl,eM.gd hlt2,eM.g0 hlt2 (by decide),eM.el hy,eM.ld0 hy (by decide),z9p,eM.cI0 hy (by decide),y1u,y40,eM.gf hlt2 1 (by decide),eM.ld hy 1 (by decide),eM.cI hy 1 (by decide),y1t,y4z,z0x]
   refine z0i (fun c=>?_) (fun c=>z0i (fun c2=>?_) (fun c2=>?_))
   ·have c:=of_decide_eq_true c
    rw[x2x hb (by omega)]at hQ
    exact hQ (by decide)
   ·have c2:x.id=y.id:=by simpa using c2
    rw[x2z hb (by omega)]at hQ
    exact hQ (by decide)
   ·have c:=of_decide_eq_false c
    have c2:¬ x.id=y.id:=by simpa using c2
    exact z0h (by simp[z00,noHL,noH,eM.noHL',eD.noHL',z1r]) (z0h y5t (next (by omega)))
theorem d45 (Q:CR→Prop):∀ (d i:Nat),ds.length-i=d→i≤ds.length→Q (rI (z5r (ds.take i) (ds.drop i))) →
  z0l X45 (cd PP 45 [1,1,1,0,1,0,0]) ([X,.ptr 0 0,X,X,X,X,X,X,X,X,X,X,X,X,X,X,X,X,X,X,X,X,X,X,X,X,X,X,X,X,X,X,X,X,X,X,X,X,X,X,X,X,X,X,X,X,X,X,X,X,X,X,X,X,X,X,X,X,X,X,X,X,.vs (z0a z0b ds) ds.length .none,I ds.length,I i]++replicate 16 X) ⟨[some (.cells [.vs (z0a z0d ms) ms.length .none,.vs (z0a z0b ds) ds.length .none] 25)],[],[]⟩ (z0g 3 (z0k X45 (cd PP 45 [1,1,1,1]) (z0q X45 45 Q))):=by
 intro d
 induction d with
 | zero =>
  intro i hd hi hQ
  have hi':i=ds.length:=by omega
  subst hi'
  have hno:¬ ((ds.length:Nat):Int) < (ds.length:Nat):=by omega
  rw[List.drop_length]at hQ
  exact z0y bhok (((Cts.nil BH).cons (g:=95) y9a).cons (g:=111) y5n) ((x5e (z0a z0d ms) (z0a z0b ds) ms.length ds.length ds.length Q).mpr (z02 (df hno) hQ))
 | succ d ih =>
  intro i hd hi hQ
  have hlt:i < ds.length:=by omega
  have e1:ds.length-(i+1)=d:=by omega
  have h1:(i:Int) < ds.length:=by omega
  have w1:IntKind.i64.wrap ((i:Int)+1)=((i+1:Nat):Int):=z1c (by omega) (by omega)
  obtain ⟨x,hx,hdr⟩:=z06 hlt
  rw[hdr]at hQ
  have htk:ds.take (i+1)=ds.take i++[x]:=by rw[List.take_add_one,hx];rfl
  refine z0y bhok (((Cts.nil BH).cons (g:=95) y9a).cons (g:=111) y5n) ((x5e (z0a z0d ms) (z0a z0b ds) ms.length ds.length i Q).mpr ?_)
  simp only[dt h1,dt hlt,eD.gl,eD.gd hlt,eD.g0 hlt (by decide),eD.el hx,eD.ld0 hx (by decide),z16,eD.cI0 hx (by decide),z2t,z4j,eD.gf hlt 1 (by decide),eD.ld hx 1 (by decide),eD.cI hx 1 (by decide),z2s,z4i,eD.gf hlt 2 (by decide),eD.ld hx 2 (by decide),eD.cI hx 2 (by decide),z2r,z4h,eD.gf hlt 3 (by decide),eD.ld hx 3 (by decide),eD.cI hx 3 (by decide),z2q,z4g,eD.gf hlt 4 (by decide),eD.ld hx 4 (by decide),eD.cI hx 4 (by decide),z2p,z4f,eD.gf hlt 5 (by decide),eD.ld hx 5 (by decide),eD.cI hx 5 (by decide),z2o,z4e,eD.gf hlt 6 (by decide),eD.ld hx 6 (by decide),eD.cI hx 6 (by decide),z2n,z4d,eD.gf hlt 7 (by decide),eD.ld hx 7 (by decide),eD.cI hx 7 (by decide),z2m,z4c,eD.gf hlt 8 (by decide),eD.ld hx 8 (by decide),eD.cI hx 8 (by decide),z2l,z4b,z0x,w1]
  refine ⟨trivial,z0i (fun hb=>?_) (fun hb=>z0h (dt hi) ⟨⟨⟨ds.take i,by rw[Nat.sub_zero,eD.takeL],by rw[List.length_take];omega,by rw[List.length_take];omega⟩,trivial⟩,⟨rfl,?_⟩,?_⟩)⟩
  ·have hb:z7f x=false:=by simpa using hb
   rw[x0f hb]at hQ
   exact hQ
  ·rw[Nat.sub_zero,eD.takeL]
   simp[z3b,z8j,eD.noHL',y8j,noHL,noH,z1y,noT]
  ·have hb:z7f x=true:=by simpa using hb
   rw[Nat.sub_zero,eD.takeL,eD.on (by decide)]
   refine z0i (fun ha=>?_) (fun ha=>z0h (by simp[z00,noHL,noH,eM.noHL',eD.noHL',z1r]) (z0h y5t ?_))
   ·rw[x0e hb ha]at hQ
    exact hQ
   ·rw[x3c hb ha,← htk]at hQ
    exact ih (i+1) e1 hlt hQ
end
theorem w2w:Ct qB.c0 45 R45:=Ct.of_wp (l:=[(111,R111),(95,R95)]) (lm:=x8z) (tp:=[]) (ct:=[]) (sm:=[(4,1),(11,1),(12,1)]) bhok (((Cts.nil BH).cons (g:=95) y9a).cons (g:=111) y5n) ⟨_,_,Tryz.func45,rfl⟩ fun args D r hR hD=>by
 unfold R45 at hR
 split at hR<;>cases hR
 rename_i l n c k
 obtain ⟨ms,ds,rfl,rfl,rfl,rfl,hm,hk⟩:=hD
 refine ⟨by simp[noHL,noH,eM.noHL',eD.noHL'],?_⟩
 rw[show z0e 0 [agg [vs (z0a z0d ms) ms.length .none,vs (z0a z0b ds) ds.length .none]]=[agg [vs (z0a z0d ms) ms.length .none,vs (z0a z0b ds) ds.length .none]] by simp[z0e,scrub,eM.scL,eD.scL,Tok.scrub],eM.on (by decide),eD.on (by decide)]
 show wpF X45 45 _ _
 rw[v45]
 refine z0i (fun h=>?_) (fun h=>z0i (fun h2=>?_) (fun h2=>?_))
 ·have h:=of_decide_eq_true h
  unfold z1x;rw[if_pos (by omega)]
 ·have h2:=of_decide_eq_true h2
  unfold z1x;rw[if_pos (by omega)]
 ·have h:=of_decide_eq_false h
  have h2:=of_decide_eq_false h2
  have e:z1x ms ds=if z13 0 ms≠0 then z13 0 ms else z5r [] ds:=by unfold z1x;rw[if_neg (by omega)]
  rw[e]
  exact z0h (by simp[z00,noHL,noH,eM.noHL',eD.noHL',z1r]) (z0h y5t (m45 hm (by omega) _ _ 0 0 rfl (Nat.zero_le _) (fun _=>rfl) (fun y h=>by omega) (fun hne=>by show rI (z13 0 ms)=rI _;rw[if_pos (show z13 0 ms≠0 from hne)]) (fun hz=>d45 hm (by omega) _ _ 0 rfl (Nat.zero_le _) (by show rI (z5r [] ds)=rI _;rw[if_neg (show ¬ z13 0 ms≠0 from fun hne=>hne hz)]))))
end Go.Proofs
