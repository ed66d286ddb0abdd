/- Contracts of functions of the program and of the reference. -/
import Derived.Shelf.Spec.SlicesGrow
import Derived.Test.YtdpfgjljehajbaaGreatDoorKE
set_option linter.unusedVariables false
set_option linter.unusedSimpArgs false
set_option maxRecDepth 100000
open Go.Ev.AV (vs ptr agg tup vp mp ofVal raw)
open Go.Ev.HB (cells map)
open Go.Ev.CR (ret)
open Go.IntKind (i64)
open List (drop replicate)
noncomputable section
namespace Go.Proofs
open Go Go.Ev
def R87:Spc:=fun args=>match args with
 | [.int .i64 f,.int .i64 u]=>some (True,rB (w7t f u))
 | _=>none
def v4k:Spc:=fun args=>match args with
 | [.vs l n .none]=>some (∃ x,l=z0a x9p x∧n=x.length∧x.length≤1000000,rB (z0c (z0a x9p) w9x false l))
 | _=>none
def R59:Spc:=fun args=>match args with
 | [.int .i64 f,.int .i64 u,.vs l n .none]=>some (∃ x,l=z0a x9p x∧n=x.length∧x.length≤1000000,rB (z0c (z0a x9p) (v2i f u) false l))
 | _=>none
def v1w:List (Nat×List Nat):=[]
def X87:WCx:=qB.wcx [] v1w [] [] []
def v4y:List (Nat×List Nat):=[(2,[0,5,6,7]),(7,[0])]
def X125:WCx:=qB.wcx [(115,R115)] v4y [] [] [(2,0)]
def v5y:List (Nat×List Nat):=[]
def X59:WCx:=qB.wcx [(87,R87),(125,v4k)] v5y [] [] []
theorem v87 (f u:Int)(Q:CR→Prop):wpF X87 87 [I f,I u] Q =
 (cIf (decide (f≥0)) (cIf (decide (f < u)) (Q (ret (Bo (decide (u≤144001440))))) (Q (ret (Bo false)))) (Q (ret (Bo false)))):=by kernel_rfl
theorem v6l (l:List AV)(len:Nat)(Q:CR→Prop):wpF X125 125 [.vs l len .none] Q =
 (cIf (noHL 0 ([vs l len .none,X,X,X,X,vs l len .none,I len,I 0]++replicate 38 X)) (z0l X125 (cd X125.P 125 [1,0,1,0,0]) ([vs l len .none,X,X,X,X,vs l len .none,I len,I 0]++replicate 38 X) (St.mk [] [] []) (z0g 0 (z0k X125 (cd X125.P 125 [1,1]) (z0q X125 125 Q)))) False):=by kernel_rfl
theorem v4x (l:List AV)(len i:Nat)(Q:CR→Prop):wpC X125 (cd PP 125 [1,0,1,0,0]) ([.vs l len .none,X,X,X,X,.vs l len .none,I len,I i]++replicate 38 X) ⟨[],[],[]⟩ (z1i X125 (cd PP 125 [1,0,1,0,0]) (z0g 0 (z0k X125 (cd PP 125 [1,1]) (z0q X125 125 Q)))) =
 (cIf (decide ((↑i:Int) < (↑len:Int))) (cIf (decide (i < len)) (cIf (decide (len*3=l.length)) (cIf (decide (3≤(drop (i*3) l).length)) (cIf (like [I 0,I 0,Bo false] (el (drop (i*3) l) 0 3)) (True∧St.mk [some (cells [I (cI (el (drop (i*3) l) 0 3) 0),I (cI (el (drop (i*3) l) 0 3) 1),Bo (cB (el (drop (i*3) l) 0 3) 2)] 77)] [] [0]=St.mk [some (cells [I (cI (el (drop (i*3) l) 0 3) 0),I (cI (el (drop (i*3) l) 0 3) 1),Bo (cB (el (drop (i*3) l) 0 3) 2)] 77)] [] [0]∧cIf (!(decide ((0:Int)≤cI (el (drop (i*3) l) 0 3) 0) && decide (cI (el (drop (i*3) l) 0 3) 0≤144001439))) (Q (ret (Bo false))) (cIf (decide ((↑i:Int) > 0)) (cIf (decide ((0:Int)≤IntKind.i64.wrap ((↑i:Int)-1))) (cIf (decide ((IntKind.i64.wrap ((↑i:Int)-1)).toNat < len)) (cIf (decide (len*3=l.length)) (cIf (decide (0 < (drop ((IntKind.i64.wrap ((↑i:Int)-1)).toNat*3) l).length)) (cIf (z0t (ofVal (Value.int IntKind.i64 0)) ((drop ((IntKind.i64.wrap ((↑i:Int)-1)).toNat*3) l).getD 0 X)) (cIf (decide (cI (drop ((IntKind.i64.wrap ((↑i:Int)-1)).toNat*3) l) 0≥cI (el (drop (i*3) l) 0 3) 0)) (Q (ret (Bo false))) (cIf (decide ((0:Int)≤IntKind.i64.wrap ((↑i:Int)-1))) (cIf (decide ((IntKind.i64.wrap ((↑i:Int)-1)).toNat < len)) (cIf (decide (len*3=l.length)) (cIf (decide (2≤(drop 1 (drop ((IntKind.i64.wrap ((↑i:Int)-1)).toNat*3) l)).length)) (cIf (like [I 0,Bo false] (el (drop 1 (drop ((IntKind.i64.wrap ((↑i:Int)-1)).toNat*3) l)) 0 2)) (cIf (cI (el (drop 1 (drop ((IntKind.i64.wrap ((↑i:Int)-1)).toNat*3) l)) 0 2) 0 == cI (el (drop (i*3) l) 0 3) 1 && (cB (el (drop 1 (drop ((IntKind.i64.wrap ((↑i:Int)-1)).toNat*3) l)) 0 2) 1 == cB (el (drop (i*3) l) 0 3) 2 && true)) (Q (ret (Bo false))) (cIf (noHL 0 ([vs l len .none,X,X,X,X,vs l len .none,I len,I (IntKind.i64.wrap ((↑i:Int)+1))]++replicate 38 X)) (z0l X125 (cd PP 125 [1,0,1,0,0]) ([vs l len .none,X,X,X,X,vs l len .none,I len,I (IntKind.i64.wrap ((↑i:Int)+1))]++replicate 38 X) (St.mk [] [] []) (z0g 0 (z0k X125 (cd PP 125 [1,1]) (z0q X125 125 Q)))) False)) False) False) False) False) False)) False) False) False) False) False) (cIf (noHL 0 ([vs l len .none,X,X,X,X,vs l len .none,I len,I (IntKind.i64.wrap ((↑i:Int)+1))]++replicate 38 X)) (z0l X125 (cd PP 125 [1,0,1,0,0]) ([vs l len .none,X,X,X,X,vs l len .none,I len,I (IntKind.i64.wrap ((↑i:Int)+1))]++replicate 38 X) (St.mk [] [] []) (z0g 0 (z0k X125 (cd PP 125 [1,1]) (z0q X125 125 Q)))) False))) False) False) False) False) (Q (ret (Bo (decide ((↑len:Int) > 0)))))):=by kernel_rfl
theorem v59 (f u:Int)(l:List AV)(len:Nat)(Q:CR→Prop):wpF X59 59 [I f,I u,.vs l len .none] Q =
 (True∧cIf (w7t f u) ((∃ x,l=z0a x9p x∧len=x.length∧x.length≤1000000)∧cIf (z0c (z0a x9p) w9x false l) (cIf (decide (0 < len)) (cIf (decide (len*3=l.length)) (cIf (decide (0 < l.length)) (cIf (z0t (ofVal (Value.int IntKind.i64 0)) (l.getD 0 X)) (cIf (cI l 0 == f) (cIf (decide ((0:Int)≤IntKind.i64.wrap ((↑len:Int)-1))) (cIf (decide ((IntKind.i64.wrap ((↑len:Int)-1)).toNat < len)) (cIf (decide (len*3=l.length)) (cIf (decide (0 < (drop ((IntKind.i64.wrap ((↑len:Int)-1)).toNat*3) l).length)) (cIf (z0t (ofVal (Value.int IntKind.i64 0)) ((drop ((IntKind.i64.wrap ((↑len:Int)-1)).toNat*3) l).getD 0 X)) (Q (ret (Bo (decide (cI (drop ((IntKind.i64.wrap ((↑len:Int)-1)).toNat*3) l) 0 < u))))) False) False) False) False) False) (Q (ret (Bo false)))) False) False) False) False) (Q (ret (Bo false)))) (Q (ret (Bo false)))):=by kernel_rfl
end Go.Proofs
namespace Go.Proofs
open Go Go.Ev
theorem v4e:Ct qB.c0 87 R87:=Ct.of_wp (lm:=v1w) (tp:=[]) (ct:=[]) (sm:=[]) bok (Cts.nil _) ⟨_,_,Tryz.func87,rfl⟩ fun args D r hR hD=>by
 unfold R87 at hR
 split at hR<;>cases hR
 refine ⟨rfl,(v87 _ _ _).mpr ?_⟩
 repeat' (refine z0i (fun h=>?_) (fun h=>?_))
 all_goals (apply y06; simp [w7t] at *; omega)
section
variable {xs:List Trn}(hlen:xs.length≤1000000)
include hlen
def prv (xs:List Trn)(i:Nat):Option Trn:=if i=0 then none else xs[i-1]?
theorem v4q (Q:CR→Prop):∀ (d i:Nat),xs.length-i=d→i≤xs.length→Q (rB (w86 (prv xs i) (xs.drop i) && decide (0 < xs.length))) →
  z0l X125 (cd PP 125 [1,0,1,0,0]) ([.vs (z0a x9p xs) xs.length .none,X,X,X,X,.vs (z0a x9p xs) xs.length .none,I xs.length,I i]++replicate 38 X) ⟨[],[],[]⟩ (z0g 0 (z0k X125 (cd PP 125 [1,1]) (z0q X125 125 Q))):=by
 have hc:Cts qB [(115,R115)]:=(Cts.nil _).cons x6e
 intro d
 induction d with
 | zero =>
  intro i hd hi hQ
  have hi':i=xs.length:=by omega
  subst hi'
  refine z0y bok hc ((v4x _ _ _ Q).mpr (z02 (by simp) ?_))
  rw[List.drop_length]at hQ
  have e:decide ((xs.length:Int) > 0)=decide (0 < xs.length):=decide_eq_decide.2 (by omega)
  rw[e]
  simpa[w86] using hQ
 | succ d ih =>
  intro i hd hi
  have hlt:i < xs.length:=by omega
  have e1:xs.length-(i+1)=d:=by omega
  have w1:IntKind.i64.wrap ((i:Int)+1)=i+1:=z1c (by omega) (by omega)
  have h1:(i:Int) < xs.length:=by omega
  intro hQ
  obtain ⟨x,hx,hdr⟩:=z06 hlt
  rw[hdr]at hQ
  have hnext:Q (rB (w86 (some x) (xs.drop (i+1)) && decide (0 < xs.length)))→z0l X125 (cd PP 125 [1,0,1,0,0]) ([.vs (z0a x9p xs) xs.length .none,X,X,X,X,.vs (z0a x9p xs) xs.length .none,I xs.length,I ((i:Int)+1)]++replicate 38 X) ⟨[],[],[]⟩ (z0g 0 (z0k X125 (cd PP 125 [1,1]) (z0q X125 125 Q))):=fun h=>by
   refine ih (i+1) e1 hlt ?_
   unfold prv
   rw[if_neg (by omega),Nat.add_sub_cancel,hx]
   exact h
  clear ih
  refine z0y bok hc ((v4x _ _ _ Q).mpr ?_)
  simp only[dt h1,dt hlt,eT.gl,eT.gd hlt,eT.g0 hlt (by decide),eT.el hx,eT.ld0 hx (by decide),w8x,eT.cI0 hx (by decide),w9a,w95,eT.gf hlt 1 (by decide),eT.ld hx 1 (by decide),eT.cI hx 1 (by decide),w89,w94,eT.gf hlt 2 (by decide),eT.ld hx 2 (by decide),eT.cB hx 2 (by decide),w88,w93,eT.gfn hlt 1 2 (by decide),w9b hx,w8y,w98,w97,z00,noHL,noH,eT.noHL',z1r,Bool.true_and,Bool.and_true,z0x,true_and,w1]
  rcases Nat.eq_zero_or_pos i with rfl | hpos
  ·simp only[prv,if_true,w86]at hQ
   have hT:w8v x.at'=true→z0l X125 (cd PP 125 [1,0,1,0,0]) ([.vs (z0a x9p xs) xs.length .none,X,X,X,X,.vs (z0a x9p xs) xs.length .none,I xs.length,I (((0:Nat):Int)+1)]++replicate 38 X) ⟨[],[],[]⟩ (z0g 0 (z0k X125 (cd PP 125 [1,1]) (z0q X125 125 Q))):=fun h=>hnext (by rw[h,Bool.true_and]at hQ;exact hQ)
   have hF:w8v x.at'=false→Q (ret (Bo false)):=fun h=>by rw[h,Bool.false_and,Bool.false_and]at hQ;exact hQ
   simp only[show decide (((0:Nat):Int) > 0)=false from rfl,z6s]
   refine z0i (fun h=>hF ?_) (fun h=>hT ?_)
   ·simp[w8v]at h ⊢;omega
   ·simp[w8v]at h ⊢;omega
  ·have hlp:i-1 < xs.length:=by omega
   have w2:IntKind.i64.wrap ((i:Int)-1)=((i-1:Nat):Int):=by rw[z1c (by omega) (by omega)];omega
   have h2:(i:Int) > 0:=by omega
   obtain ⟨p,hp,_⟩:=z06 hlp
   simp only[prv,if_neg (show ¬ i=0 by omega),hp,w86]at hQ
   have hT:(w8v x.at' && (decide (p.at' < x.at') && !v2q p x))=true→z0l X125 (cd PP 125 [1,0,1,0,0]) ([.vs (z0a x9p xs) xs.length .none,X,X,X,X,.vs (z0a x9p xs) xs.length .none,I xs.length,I ((i:Int)+1)]++replicate 38 X) ⟨[],[],[]⟩ (z0g 0 (z0k X125 (cd PP 125 [1,1]) (z0q X125 125 Q))):=fun h=>hnext (by rw[h,Bool.true_and]at hQ;exact hQ)
   have hF:(w8v x.at' && (decide (p.at' < x.at') && !v2q p x))=false→Q (ret (Bo false)):=fun h=>by rw[h,Bool.false_and,Bool.false_and]at hQ;exact hQ
   clear hQ hnext
   simp only[w2,dt h2,dt (Int.natCast_nonneg (i-1)),Int.toNat_natCast,dt hlp,eT.gl,eT.gd hlp,eT.g0 hlp (by decide),eT.el hp,eT.ld0 hp (by decide),w8x,eT.cI0 hp (by decide),w9a,w95,eT.gf hlp 1 (by decide),eT.ld hp 1 (by decide),eT.cI hp 1 (by decide),w89,w94,eT.gf hlp 2 (by decide),eT.ld hp 2 (by decide),eT.cB hp 2 (by decide),w88,w93,eT.gfn hlp 1 2 (by decide),w9b hp,w8y,w98,w97,z0x]
   refine z0i (fun h=>hF ?_) (fun h=>z0i (fun h3=>hF ?_) (fun h3=>z0i (fun h4=>hF ?_) (fun h4=>hT ?_)))
   ·have:w8v x.at'=false:=by simp[w8v]at h ⊢;omega
    rw[this];rfl
   ·have:decide (p.at' < x.at')=false:=by simp at h3 ⊢;omega
    rw[this];simp
   ·have:v2q p x=true:=by simp[v2q]at h4 ⊢;exact h4
    rw[this];simp
   ·have q1:w8v x.at'=true:=by simp[w8v]at h ⊢;omega
    have q2:decide (p.at' < x.at')=true:=by simp at h3 ⊢;omega
    have q3:v2q p x=false:=by
     rw[Bool.eq_false_iff];intro hs
     simp only[v2q,Bool.and_eq_true,decide_eq_true_eq,beq_iff_eq]at hs
     simp[hs]at h4
    rw[q1,q2,q3];rfl
end
theorem v6k:Ct qB.c0 125 v4k:=Ct.of_wp (lm:=v4y) (tp:=[]) (ct:=[]) (sm:=[(2,0)]) bok ((Cts.nil _).cons x6e) ⟨_,_,Tryz.func125,rfl⟩ fun args D r hR hD=>by
 unfold v4k at hR
 split at hR<;>cases hR
 obtain ⟨xs,rfl,rfl,hlen⟩:=hD
 refine ⟨by simp[noHL,noH,eT.noHL'],?_⟩
 rw[show z0e 0 [vs (z0a x9p xs) xs.length .none]=[.vs (z0a x9p xs) xs.length .none] by simp[z0e,scrub,eT.scL,Tok.scrub],eT.on (by decide)]
 refine (v6l _ _ _).mpr (z0h (by simp only[z00,noHL,noH,eT.noHL',z1r,Bool.true_and]) ?_)
 exact v4q hlen _ _ 0 rfl (Nat.zero_le _) rfl
theorem v6n:Ct qB.c0 59 R59:=Ct.of_wp (lm:=v5y) (tp:=[]) (ct:=[]) (sm:=[]) bok (((Cts.nil _).cons v6k).cons v4e) ⟨_,_,Tryz.func59,rfl⟩ fun args D r hR hD=>by
 unfold R59 at hR
 split at hR<;>cases hR
 rename_i f u l n
 obtain ⟨xs,rfl,rfl,hlen⟩:=hD
 refine ⟨by simp[noHL,noH,eT.noHL'],?_⟩
 rw[show z0e 0 [AV.int IntKind.i64 f,AV.int IntKind.i64 u,vs (z0a x9p xs) xs.length .none]=[I f,I u,.vs (z0a x9p xs) xs.length .none] by simp[z0e,scrub,eT.scL,Tok.scrub],eT.on (by decide)]
 refine (v59 _ _ _ _ _).mpr ⟨trivial,z0i (fun h=>⟨⟨xs,rfl,rfl,hlen⟩,?_⟩) (fun h=>?_)⟩
 ·rw[eT.on (by decide)]
  refine z0i (fun h2=>?_) (fun h2=>?_)
  ·have hpos:0 < xs.length:=by unfold w9x at h2;rw[Bool.and_eq_true,decide_eq_true_eq]at h2;exact h2.2
   obtain ⟨x,hx,_⟩:=z06 hpos
   have hl1:xs.length-1 < xs.length:=by omega
   obtain ⟨y,hy,_⟩:=z06 hl1
   have w1:IntKind.i64.wrap ((xs.length:Int)-1)=((xs.length-1:Nat):Int):=by rw[z1c (by omega) (by omega)];omega
   have z0:z0a x9p xs=drop (0*3) (z0a x9p xs):=rfl
   have g1:decide (0 < (z0a x9p xs).length)=true:=dt (by rw[eT.lenL];omega)
   have g2:z0t (ofVal (Value.int IntKind.i64 0)) ((z0a x9p xs).getD 0 X)=true:=by rw[z0,eT.ld0 hx (by decide)];rfl
   have g3:cI (z0a x9p xs) 0=x.at':=by rw[z0,eT.cI0 hx (by decide)];rfl
   simp only[dt hpos,eT.gl,g1,g2,g3,w1,dt (Int.natCast_nonneg (xs.length-1)),Int.toNat_natCast,dt hl1,eT.gl,eT.gd hl1,eT.g0 hl1 (by decide),eT.el hy,eT.ld0 hy (by decide),w8x,eT.cI0 hy (by decide),w9a,w95,eT.gf hl1 1 (by decide),eT.ld hy 1 (by decide),eT.cI hy 1 (by decide),w89,w94,eT.gf hl1 2 (by decide),eT.ld hy 2 (by decide),eT.cB hy 2 (by decide),w88,w93,eT.gfn hl1 1 2 (by decide),w9b hy,w8y,w98,w97,z0x]
   unfold v2i
   rw[h,h2,v4r hx,v4r hy]
   refine z0i (fun h3=>?_) (fun h3=>?_)
   ·have h3:x.at'=f:=by simpa using h3
    rw[dt h3];rfl
   ·have h3:¬ x.at'=f:=by simpa using h3
    rw[df h3];rfl
  ·unfold v2i;rw[h2,Bool.and_false,Bool.false_and,Bool.false_and]
 ·unfold v2i;rw[h,Bool.false_and,Bool.false_and,Bool.false_and]
end Go.Proofs
namespace Go.Proofs
open Go Go.Ev
attribute [local irreducible] wpF wpC cd
section
variable {xs:List Trn}(hlen:xs.length≤1000000){u:Int}(hu:u≤144001440)(hn:w86 none xs=true)(hlast:(xs.getD (xs.length-1) w8t).at' < u){a:Int}{b:Bool}
include hlen hu hn hlast
end
end Go.Proofs
namespace Go.Proofs
open Go.Shelf Go.RowKit Go.Lib
end Go.Proofs
namespace Go.Ev
open Go.RowKit
end Go.Ev
namespace Go.Proofs
open Go Go.Ev
end Go.Proofs
--BASE BG
namespace Go.Proofs
open Go Go.Ev
end Go.Proofs
namespace Go.Proofs
open Go Go.Ev
attribute [local irreducible] wpF wpC cd
end Go.Proofs
namespace Go.Proofs
open Go Go.Ev
def R58:Spc:=fun args=>match args with
 | [.vs a n .none,.vs b m .none]=>some (∃ x y,a=z0a x9p x∧n=x.length∧b=z0a x9p y∧m=y.length∧x.length≤10000000,rB (decide (a=b)))
 | _=>none
end Go.Proofs
namespace Go.Ev
end Go.Ev
namespace Go.Proofs
open Go Go.Ev
attribute [local irreducible] wpF wpC cd
section
variable {xs ys:List Trn}(hl:xs.length≤10000000)(he:xs.length=ys.length)
include hl he
end
section
variable {xs ys:List Trn}(hx1:xs.length≤1000000)(hy1:ys.length≤1000000)
include hx1 hy1
end

section
variable {xs ys:List Trn}(hx1:xs.length≤1000000)(hy1:ys.length≤1000000)(hpx:0 < xs.length)(hpy:0 < ys.length){p q:Trn}(hp:xs.getD (xs.length-1) w8t=p)(hq:ys.getD 0 w8t=q)
include hx1 hy1 hpx hpy hp hq
end
end Go.Proofs
--BASE BM7
namespace Go.Proofs
open Go Go.Ev
def R122:SpcO:=fun args=>match args with
 | [.agg [.vs a n .none,.vs c k .none],.int .i64 i,.int .i64 f,.int .i64 u]=>some (∃ ms ds,a=z0a z0d ms∧n=ms.length∧c=z0a z0b ds∧k=ds.length∧ms.length≤10000000∧ds.length≤10000000,decide (aE a c i 0≠0) || !w7t f u,.ret (.tup [.raw .nilPtr,I (if aE a c i 0≠0 then aE a c i 0 else 1)]),fun p=>.ret (.tup [p,I 0]),
  [.cells [.vs a n .none,.vs c k .none] 25,.cells [.vs a n .none,.vs c k .none] 25,.cells [I (aA a c i 0).id,I (aA a c i 0).zo] 58,.cells [.vs a n .none,.vs c k .none] 25,.cells [I (aA a c i 0).id,I (aA a c i 0).zo] 58,.map (z6g (z0j c) [])],[.vs a n .none,.vs c k .none,I (aA a c i 0).id,I (aA a c i 0).zo,.vs (bC c) (bN c) .none])
 | _=>none
def v0e:List (Nat×List Nat):=[]
def X122:WCx:=BM7.wcx [(87,R87)] v0e [] [] []
def w9m:List (Nat×List Nat):=[]
def X122e:WCx:=BM7.wcx [(87,R87)] w9m [] [] []
theorem v3m (a c:List AV)(n k:Nat)(i f u:Int)(Q:CR→Prop):wpF X122 122 [.agg [.vs a n .none,.vs c k .none],I i,I f,I u] Q =
 ((∃ ms,∃ ds,a=z0a z0d ms∧n=ms.length∧c=z0a z0b ds∧k=ds.length∧ms.length≤10000000∧ds.length≤10000000)∧cIf (decide (aE a c i 0≠0)) (cIf (aE a c i 0 != 0) (Q (ret (tup [raw RV.nilPtr,I (aE a c i 0)]))) (True∧cIf (!w7t f u) (Q (ret (tup [raw RV.nilPtr,I 1]))) (Q (ret (tup [raw RV.nilPtr,I 0]))))) (True∧cIf (!w7t f u) (Q (ret (tup [raw RV.nilPtr,I 1]))) False)):=by kernel_rfl
theorem v2p (a c:List AV)(n k:Nat)(i f u:Int)(Q:CR→List (Option HB)→Prop):wpE X122e 8 122 [.agg [.vs a n .none,.vs c k .none],I i,I f,I u] [] Q =
 ((∃ ms,∃ ds,a=z0a z0d ms∧n=ms.length∧c=z0a z0b ds∧k=ds.length∧ms.length≤10000000∧ds.length≤10000000)∧cIf (decide (aE a c i 0≠0)) (cIf (aE a c i 0 != 0) (cIf ((List.take 8 [some (cells [vs a n .none,vs c k .none] 25)]).all (okBlk 8)) (Q (ret (tup [raw RV.nilPtr,I (aE a c i 0)])) [some (cells [vs (z0e 0 a) n .none,vs (z0e 0 c) k .none] 25)]) False) (True∧cIf (!w7t f u) (cIf ((List.take 8 [some (cells [vs a n .none,vs c k .none] 25)]).all (okBlk 8)) (Q (ret (tup [raw RV.nilPtr,I 1])) [some (cells [vs (z0e 0 a) n .none,vs (z0e 0 c) k .none] 25)]) False) (cIf ((List.take 8 [some (cells [vs a n .none,vs c k .none] 25)]).all (okBlk 8)) (Q (ret (tup [raw RV.nilPtr,I 0])) [some (cells [vs (z0e 0 a) n .none,vs (z0e 0 c) k .none] 25)]) False))) (True∧cIf (!w7t f u) (cIf ((List.take 8 [some (cells [vs a n .none,vs c k .none] 25),some (cells [vs a n .none,vs c k .none] 25),some (cells [I (aA a c i 0).id,I (aA a c i 0).zo] 58),some (cells [vs a n .none,vs c k .none] 25),some (cells [I (aA a c i 0).id,I (aA a c i 0).zo] 58),some (map (z6g (z0j c) [])),some (map []),some (cells [vs a n .none,vs c k .none,I (aA a c i 0).id,I (aA a c i 0).zo,vs (bC c) (bN c) .none,mp 6] 185)]).all (okBlk 8)) (Q (ret (tup [raw RV.nilPtr,I 1])) [some (cells [vs (z0e 0 a) n .none,vs (z0e 0 c) k .none] 25),some (cells [vs (z0e 0 a) n .none,vs (z0e 0 c) k .none] 25),some (cells [I (aA a c i 0).id,I (aA a c i 0).zo] 58),some (cells [vs (z0e 0 a) n .none,vs (z0e 0 c) k .none] 25),some (cells [I (aA a c i 0).id,I (aA a c i 0).zo] 58),some (z0n 0 (map (z6g (z0j c) []))),some (z0n 0 (map [])),some (cells [vs (z0e 0 a) n .none,vs (z0e 0 c) k .none,I (aA a c i 0).id,I (aA a c i 0).zo,vs (z0e 0 (bC c)) (bN c) .none,mp 6] 185)]) False) (cIf ((List.take 8 [some (cells [vs a n .none,vs c k .none] 25),some (cells [vs a n .none,vs c k .none] 25),some (cells [I (aA a c i 0).id,I (aA a c i 0).zo] 58),some (cells [vs a n .none,vs c k .none] 25),some (cells [I (aA a c i 0).id,I (aA a c i 0).zo] 58),some (map (z6g (z0j c) [])),some (map []),some (cells [vs a n .none,vs c k .none,I (aA a c i 0).id,I (aA a c i 0).zo,vs (bC c) (bN c) .none,mp 6] 185)]).all (okBlk 8)) (Q (ret (tup [ptr 7 0,I 0])) [some (cells [vs (z0e 0 a) n .none,vs (z0e 0 c) k .none] 25),some (cells [vs (z0e 0 a) n .none,vs (z0e 0 c) k .none] 25),some (cells [I (aA a c i 0).id,I (aA a c i 0).zo] 58),some (cells [vs (z0e 0 a) n .none,vs (z0e 0 c) k .none] 25),some (cells [I (aA a c i 0).id,I (aA a c i 0).zo] 58),some (z0n 0 (map (z6g (z0j c) []))),some (z0n 0 (map [])),some (cells [vs (z0e 0 a) n .none,vs (z0e 0 c) k .none,I (aA a c i 0).id,I (aA a c i 0).zo,vs (z0e 0 (bC c)) (bN c) .none,mp 6] 185)]) False))):=by kernel_rfl
end Go.Proofs
namespace Go.Proofs
open Go Go.Ev
attribute [local irreducible] wpF wpC wpE cd
theorem w9p:Cts BM7 [(87,R87)]:=(Cts.nil BM7).cons (g:=87) v4e
theorem co122:CtO qB.c0 185 122 R122:=⟨⟨_,_,Tryz.func122,rfl⟩,fun args D b r0 r gs cs hR hD=>by
 unfold R122 at hR
 split at hR<;>cases hR
 rename_i a n c k i f u
 obtain ⟨ms,ds,rfl,rfl,rfl,rfl,hm,hk⟩:=hD
 rw[y5w,y5v,z1m,x11,x12]
 have hp:∃ ms' ds',z0a z0d ms=z0a z0d ms'∧ms.length=ms'.length∧z0a z0b ds=z0a z0b ds'∧ds.length=ds'.length∧ms'.length≤10000000∧ds'.length≤10000000:=⟨ms,ds,rfl,rfl,rfl,rfl,hm,hk⟩
 have hS:=y3q ds [] [] SetOk.nil
 have hsc:z0e 0 [agg [vs (z0a z0d ms) ms.length .none,vs (z0a z0b ds) ds.length .none],I i,I f,I u]=[agg [vs (z0a z0d ms) ms.length .none,vs (z0a z0b ds) ds.length .none],I i,I f,I u]:=by simp[z0e,scrub,eM.scL,eD.scL,Tok.scrub]
 refine ⟨by simp[noHL,noH,eM.noHL',eD.noHL'],z6e ms ds _ _,?_,fun m n=>rfl,fun hb=>?_,fun hb=>?_⟩
 ·intro x hx m
  simp only[List.mem_cons,List.mem_nil_iff,or_false]at hx
  rcases hx with rfl | rfl | rfl | rfl | rfl | rfl
  ·simp only[mvB,mvL,mvA,z2h m _ (eM.noHL' 0 _),z2h m _ (eD.noHL' 0 _)]
  ·simp only[mvB,mvL,mvA,z2h m _ (eM.noHL' 0 _),z2h m _ (eD.noHL' 0 _)]
  ·rfl
  ·simp only[mvB,mvL,mvA,z2h m _ (eM.noHL' 0 _),z2h m _ (eD.noHL' 0 _)]
  ·rfl
  ·exact hS.mv m
 ·rw[hsc]
  refine y5r (B:=BM7) (l:=[(87,R87)]) (lm:=v0e) (tp:=[]) (ct:=[]) (sm:=[]) bm7ok w9p ?_
  show wpF X122 122 _ _
  rw[v3m,x11]
  refine ⟨hp,z0i (fun h=>?_) (fun h=>⟨trivial,?_⟩)⟩
  ·have h:(z0f ms ds i 0).2≠0:=of_decide_eq_true h
   rw[if_pos h]
   exact z0h (by simpa using h) rfl
  ·have h:(z0f ms ds i 0).2=0:=by simpa using h
   rw[h]at hb ⊢
   have hb2:w7t f u=false:=by simpa using hb
   rw[hb2]
   exact z0h rfl rfl
 ·rw[hsc]
  have hb2:(z0f ms ds i 0).2=0∧w7t f u=true:=by simpa using hb
  obtain ⟨hb1,hb2⟩:=hb2
  refine y0k (B:=BM7) (l:=[(87,R87)]) (lm:=w9m) (tp:=[]) (ct:=[]) (sm:=[]) bm7ok w9p ?_
  show wpE X122e 8 122 _ [] _
  rw[v2p,x11,x12,z1m,y5w,y5v,hb2]
  refine ⟨hp,z02 (by simp[hb1]) ⟨trivial,z02 rfl (z0h ?_ ?_)⟩⟩
  ·show ([_,_,_,_,_,_,_,_]:List (Option HB)).all (okBlk 8)=true
   rw[List.all_cons,List.all_cons,List.all_cons,List.all_cons,List.all_cons,List.all_cons,List.all_cons,List.all_cons,List.all_nil,hS.blk]
   simp[okBlk,noHB,noHL,noH,eM.noHL',eD.noHL',eNum.noHL']
  ·rw[hS.scrub,eM.scL,eD.scL,eNum.scL]
   exact ⟨rfl,rfl⟩⟩
def w96:SpcT:=fun args S=>match args with
 | [.ptr h 0,.int .i64 a,.int .i64 b]=>some (True,.ret (.fn (.func 164) [] [.ptr (S.hs.length+1) 0,.ptr (S.hs.length+2) 0,.ptr S.hs.length 0]),{ S with hs:=S.hs++[some (.cells [.ptr h 0] 104),some (.cells [I a] 3),some (.cells [I b] 3)] })
 | _=>none
theorem v2x (S:St)(h:Nat)(a b:Int)(Q:Kont):wpC (qB.wcx []) (cd PP 123 []) [.ptr h 0,I a,I b,X,X,X,X,X] S Q=Q .ret [.ptr h 0,I a,I b,.ptr S.hs.length 0,.ptr (S.hs++[some (cells [.ptr h 0] 104)]).length 0,.ptr ((S.hs++[some (cells [.ptr h 0] 104)])++[some (cells [I a] 3)]).length 0,.fn (.func 164) [] [.ptr (S.hs++[some (cells [.ptr h 0] 104)]).length 0,.ptr ((S.hs++[some (cells [.ptr h 0] 104)])++[some (cells [I a] 3)]).length 0,.ptr S.hs.length 0],.fn (.func 164) [] [.ptr (S.hs++[some (cells [.ptr h 0] 104)]).length 0,.ptr ((S.hs++[some (cells [.ptr h 0] 104)])++[some (cells [I a] 3)]).length 0,.ptr S.hs.length 0]] { S with hs:=((S.hs++[some (cells [.ptr h 0] 104)])++[some (cells [I a] 3)])++[some (cells [I b] 3)] }:=by kernel_rfl
theorem v2w:HookOk qB.c0 123 (w78 w96):=HookOk.of_T ⟨_,_,Tryz.func123,rfl⟩ fun args S D r S' hR hD=>by
 unfold w96 at hR
 split at hR<;>cases hR
 rename_i h a b
 refine w9q (B:=qB) (l:=[]) (c:=cd PP 123 []) bok (Cts.nil _) Tryz.func123 (by kernel_rfl) (by kernel_rfl) ?_
 show wpC (qB.wcx []) (cd PP 123 []) [.ptr h 0,I a,I b,X,X,X,X,X] { S with wl:=[] } _
 rw[v2x]
 have l1:(S.hs++[some (cells [.ptr h 0] 104)]).length=S.hs.length+1:=by simp
 have l2:((S.hs++[some (cells [.ptr h 0] 104)])++[some (cells [I a] 3)]).length=S.hs.length+2:=by simp
 simp only[l1,l2]
 refine ⟨.inr rfl,.fn (.func 164) [] [.ptr (S.hs.length+1) 0,.ptr (S.hs.length+2) 0,.ptr S.hs.length 0],by kernel_rfl,?_,?_⟩
 ·unfold finish
  rw[show pub (qB.wcx []).cx _ S.hs.length (.fn (.func 164) [] [.ptr (S.hs.length+1) 0,.ptr (S.hs.length+2) 0,.ptr S.hs.length 0])=none by simp[pub,noH,noHL]]
 ·unfold finish
  rw[show pub (qB.wcx []).cx _ S.hs.length (.fn (.func 164) [] [.ptr (S.hs.length+1) 0,.ptr (S.hs.length+2) 0,.ptr S.hs.length 0])=none by simp[pub,noH,noHL]]
  simp[z2i]
def BL:Base:=(BM7.hk 122 (y29 185 R122)).hk 123 (w78 w96)
theorem blok:BaseOk BL:=(bm7ok.hk (co122.hook gtpB)).hk v2w
end Go.Proofs
namespace Go.Ev
section
variable {α:Type}[DecidableEq α]{f:Int→α}
def chg (f:Int→α):Nat→Int→List (Int×α)
 | 0,_=>[]
 | k+1,s=>(if f s=f (s-1) then [] else [(s,f s)])++chg f k (s+1)
theorem w8n:∀ (a b:Nat) (s:Int),chg f (a+b) s=chg f a s++chg f b (s+a)
 | 0,b,s=>by simp[chg]
 | a+1,b,s=>by
  rw[show a+1+b=(a+b)+1 by omega]
  simp only[chg]
  rw[w8n a b (s+1),List.append_assoc,show s+1+(a:Int)=s+((a+1:Nat):Int) by omega]
theorem w84:∀ (k:Nat) (s:Int),chg f k s=match y3i f (f (s-1)) k s with | none=>[] | some t=>(t,f t)::chg f (s+k-(t+1)).toNat (t+1)
 | 0,s=>rfl
 | k+1,s=>by
  by_cases h:f s=f (s-1)
  ·have e:y3i f (f (s-1)) (k+1) s=y3i f (f (s-1)) k (s+1):=by rw[y3i,if_pos h]
   rw[e]
   simp only[chg,if_pos h,List.nil_append]
   rw[w84 k (s+1),show s+1-1=s by omega,h]
   cases y3i f (f (s-1)) k (s+1) with
   | none=>rfl
   | some t =>
    simp only
    rw[show s+1+(k:Int)=s+((k+1:Nat):Int) by omega]
  ·have e:y3i f (f (s-1)) (k+1) s=some s:=by rw[y3i,if_neg h]
   rw[e]
   simp only[chg,if_neg h]
   rw[show (s+((k+1:Nat):Int)-(s+1)).toNat=k by omega]
   rfl
theorem w82:∀ {k:Nat} {s:Int} {x:Int×α},x∈chg f k s→s≤x.1∧x.1 < s+k∧x.2=f x.1∧f x.1≠f (x.1-1)
 | 0,s,x,h=>by cases h
 | k+1,s,x,h=>by
  simp only[chg]at h
  rcases List.mem_append.1 h with h | h
  ·split at h
   ·cases h
   ·rename_i hne
    simp at h
    subst h
    exact ⟨Int.le_refl _,by simp only;omega,rfl,hne⟩
  ·obtain ⟨h1,h2,h3,h4⟩:=w82 h
   exact ⟨by omega,by omega,h3,h4⟩
def w8q (v:α)(l:List (Int×α)):α:=match l.getLast? with | some x=>x.2 | none=>v
theorem w8w:∀ (k:Nat) (s:Int),w8q (f (s-1)) (chg f k s)=f (s-1+k)
 | 0,s=>by simp[chg,w8q]
 | k+1,s=>by
  have ih:=w8w k (s+1)
  rw[show s+1-1=s by omega]at ih
  simp only[chg]
  split
  ·rename_i h
   rw[List.nil_append,← h]
   rw[show s-1+((k+1:Nat):Int)=s+k by omega,← ih]
  ·rename_i h
   rw[show s-1+((k+1:Nat):Int)=s+k by omega,← ih]
   unfold w8q
   rw[List.getLast?_append]
   cases hl:(chg f k (s+1)).getLast? with
   | none=>simp
   | some x=>simp
end
end Go.Ev
namespace Go.Proofs
open Go Go.Ev
def XL:WCx:=BL.wcx []
def ops164:Array Oper:=match cd PP 164 [1,0,0,1,0,0,0] with | .region _ o _=>o | _=>#[]
theorem xlo:XL.Ones:=z7l blok (Cts.nil _)
theorem xlok:CxOk XL.cx:=y0m blok (Cts.nil _)
theorem xlm:∀ c e,XL.mask c e=e:=fun c e=>by unfold WCx.mask;cases z8w c<;>rfl
theorem xlc:∀ c,XL.cut c=false:=fun c=>by unfold WCx.cut;cases z8w c<;>rfl
end Go.Proofs
namespace Go.Proofs
open Go Go.Ev
theorem w8u (b0 b1 b2 b3 b4 b5 b6 b7 b8 d:Option HB)(J:List (Option HB))(a c b:List AV)(n k nb l:Nat)(id zo f u at_:Int)(es:List (AV×AV))(T:List (Nat×(Nat×Nat)))(W:List Nat)(ok:Bool)(Q:EX→Env→St→Prop):wpC XL (cd PP 164 [1,0,0,0]) ([.fn (.yield l) [] [],X,.ptr 14 0,.ptr 12 0,X,I at_,Bo ok]++replicate 22 X) ⟨([b0,b1,b2,b3,b4,b5,b6,b7,b8,some (.map es),some (.cells [.vs a n .none,.vs c k .none,I id,I zo,.vs b nb .none,.mp 9] 185),d,some (.cells [.ptr 10 0] 104),some (.cells [I f] 3),some (.cells [I u] 3)]++J),T,W⟩ Q =
 (cIf ok (cIf (decide (at_ < u)) (Q EX.normal ([AV.fn (Fn.yield l) [] [],X,ptr 14 0,ptr 12 0,X,I at_,Bo ok,X,Bo ok,Bo true,I at_,I u,Bo (decide (at_ < u)),Bo (decide (at_ < u))]++replicate 15 X) (St.mk ([b0,b1,b2,b3,b4,b5,b6,b7,b8,some (map es),some (cells [vs a n .none,vs c k .none,I id,I zo,vs b nb .none,mp 9] (185:Nat)),d,some (cells [ptr 10 0] (104:Nat)),some (cells [I f] (3:Nat)),some (cells [I u] (3:Nat))]++J) T W)) (Q (EX.exit 0) ([AV.fn (Fn.yield l) [] [],X,ptr 14 0,ptr 12 0,X,I at_,Bo ok,X,Bo ok,Bo true,I at_,I u,Bo (decide (at_ < u)),Bo (decide (at_ < u))]++replicate 15 X) (St.mk ([b0,b1,b2,b3,b4,b5,b6,b7,b8,some (map es),some (cells [vs a n .none,vs c k .none,I id,I zo,vs b nb .none,mp 9] (185:Nat)),d,some (cells [ptr 10 0] (104:Nat)),some (cells [I f] (3:Nat)),some (cells [I u] (3:Nat))]++J) T W))) (Q (EX.exit 0) ([AV.fn (Fn.yield l) [] [],X,ptr 14 0,ptr 12 0,X,I at_,Bo ok,X,Bo ok,Bo false,tup [],tup [],tup [],Bo false]++replicate 15 X) (St.mk ([b0,b1,b2,b3,b4,b5,b6,b7,b8,some (map es),some (cells [vs a n .none,vs c k .none,I id,I zo,vs b nb .none,mp 9] (185:Nat)),d,some (cells [ptr 10 0] (104:Nat)),some (cells [I f] (3:Nat)),some (cells [I u] (3:Nat))]++J) T W))):=by kernel_rfl
theorem v1j (b0 b1 b2 b3 b4 b5 b6 b7 b8 d:Option HB)(J:List (Option HB))(a c b:List AV)(n k nb l:Nat)(id zo f u:Int)(es:List (AV×AV))(T:List (Nat×(Nat×Nat)))(W:List Nat)(Q:EX→Env→St→Prop):wpC XL (cd PP 164 [0]) ([.fn (.yield l) [] [],.ptr 13 0,.ptr 14 0,.ptr 12 0]++replicate 25 X) ⟨([b0,b1,b2,b3,b4,b5,b6,b7,b8,some (.map es),some (.cells [.vs a n .none,.vs c k .none,I id,I zo,.vs b nb .none,.mp 9] 185),d,some (.cells [.ptr 10 0] 104),some (.cells [I f] 3),some (.cells [I u] 3)]++J),T,W⟩ Q =
 (Q EX.normal ([AV.fn (Fn.yield l) [] [],ptr 13 0,ptr 14 0,ptr 12 0,X,I f,Bo true,I f]++replicate 21 X) (St.mk ([b0,b1,b2,b3,b4,b5,b6,b7,b8,some (map es),some (cells [vs a n .none,vs c k .none,I id,I zo,vs b nb .none,mp 9] (185:Nat)),d,some (cells [ptr 10 0] (104:Nat)),some (cells [I f] (3:Nat)),some (cells [I u] (3:Nat))]++J) T W)):=by kernel_rfl
theorem v1k (b0 b1 b2 b3 b4 b5 b6 b7 b8 d:Option HB)(J:List (Option HB))(a c b:List AV)(n k nb l:Nat)(id zo f u at_:Int)(es:List (AV×AV))(T:List (Nat×(Nat×Nat)))(W:List Nat)(Q:EX→Env→St→Prop):wpC XL (cd PP 164 [1,0,0,1,1]) ([.fn (.yield l) [] [],X,.ptr 14 0,.ptr 12 0,X,I at_,X]++replicate 22 X) ⟨([b0,b1,b2,b3,b4,b5,b6,b7,b8,some (.map es),some (.cells [.vs a n .none,.vs c k .none,I id,I zo,.vs b nb .none,.mp 9] 185),d,some (.cells [.ptr 10 0] 104),some (.cells [I f] 3),some (.cells [I u] 3)]++J),T,W⟩ Q =
 (((∃ ms,∃ ds,ObjOk a c b n k nb id zo es ms ds)∧(0:Int)≤at_∧at_≤144001439)∧((185:Nat)=(185:Nat)∧[vs a n .none,vs c k .none,I id,I zo,vs b nb .none,mp 9]=List.take 5 [vs a n .none,vs c k .none,I id,I zo,vs b nb .none,mp 9]++[mp (nat_lit 9)])∧Q EX.normal ([AV.fn (Fn.yield l) [] [],X,ptr 14 0,ptr 12 0,X,I (z5y (z0j c) (Mst.mk id zo) at_).fst,Bo (z5y (z0j c) (Mst.mk id zo) at_).snd,X,X,X,X,X,X,X,tup [I (z5y (z0j c) (Mst.mk id zo) at_).fst,Bo (z5y (z0j c) (Mst.mk id zo) at_).snd],ptr 10 0,I at_,tup [I (z5y (z0j c) (Mst.mk id zo) at_).fst,Bo (z5y (z0j c) (Mst.mk id zo) at_).snd],I (z5y (z0j c) (Mst.mk id zo) at_).fst,Bo (z5y (z0j c) (Mst.mk id zo) at_).snd]++replicate 9 X) (St.mk (([b0,b1,b2,b3,b4,b5,b6,b7,b8,some (map es),some (cells [vs a n .none,vs c k .none,I id,I zo,vs b nb .none,mp 9] (185:Nat)),d,some (cells [ptr 10 0] (104:Nat)),some (cells [I f] (3:Nat)),some (cells [I u] (3:Nat))]++J).set (nat_lit 9) (some (map (E83 at_ [vs a n .none,vs c k .none,I id,I zo,vs b nb .none] es)))) T (z2i [nat_lit 9,10] (St.mk ([b0,b1,b2,b3,b4,b5,b6,b7,b8,some (map es),some (cells [vs a n .none,vs c k .none,I id,I zo,vs b nb .none,mp 9] (185:Nat)),d,some (cells [ptr 10 0] (104:Nat)),some (cells [I f] (3:Nat)),some (cells [I u] (3:Nat))]++J) T W).wl))):=by kernel_rfl
end Go.Proofs
namespace Go.Proofs
open Go Go.Ev
theorem v1i (b0 b1 b2 b3 b4 b5 b6 b7 b8 d:Option HB)(J:List (Option HB))(a c b:List AV)(n k nb l:Nat)(id zo f u at_:Int)(es:List (AV×AV))(T:List (Nat×(Nat×Nat)))(W:List Nat)(rd:RdG)(z:Zs)(Q:KontR):w72 XL (YG rd) l ops164.toList ([.fn (.yield l) [] [],X,.ptr 14 0,.ptr 12 0,X,I at_,X]++replicate 22 X) ⟨([b0,b1,b2,b3,b4,b5,b6,b7,b8,some (.map es),some (.cells [.vs a n .none,.vs c k .none,I id,I zo,.vs b nb .none,.mp 9] 185),d,some (.cells [.ptr 10 0] 104),some (.cells [I f] 3),some (.cells [I u] 3)]++J),T,W⟩ z Q =
  (((∃ ms,∃ ds,ObjOk a c b n k nb id zo es ms ds)∧0≤at_∧at_≤144001439)∧((185:Nat)=185∧[vs a n .none,.vs c k .none,I id,I zo,.vs b nb .none,.mp 9]=List.take 5 [vs a n .none,.vs c k .none,I id,I zo,.vs b nb .none,.mp 9]++[.mp 9])∧(l=l∧YG rd [.agg [I at_,I (pAt (z0j c) ⟨id,zo⟩ at_).fl,Bo (pAt (z0j c) ⟨id,zo⟩ at_).ho]] ⟨([b0,b1,b2,b3,b4,b5,b6,b7,b8,some (.map (E79 at_ [.vs a n .none,.vs c k .none,I id,I zo,.vs b nb .none] es)),some (.cells [.vs a n .none,.vs c k .none,I id,I zo,.vs b nb .none,.mp 9] 185),d,some (.cells [.ptr 10 0] 104),some (.cells [I f] 3),some (.cells [I u] 3)]++J),T,z2i [9,10] W⟩ z fun bb S2 z2=>Q .normal ([.fn (.yield l) [] [],X,.ptr 14 0,.ptr 12 0,X,I at_,X,X,X,X,X,X,X,X,X,X,X,X,X,X,.fn (.yield l) [] [],I at_,.ptr 10 0,I at_,.agg [I (pAt (z0j c) ⟨id,zo⟩ at_).of,I (pAt (z0j c) ⟨id,zo⟩ at_).fl,Bo (pAt (z0j c) ⟨id,zo⟩ at_).ho,I (pAt (z0j c) ⟨id,zo⟩ at_).pf,I (pAt (z0j c) ⟨id,zo⟩ at_).ph],.agg [I (pAt (z0j c) ⟨id,zo⟩ at_).fl,Bo (pAt (z0j c) ⟨id,zo⟩ at_).ho],.agg [I at_,I (pAt (z0j c) ⟨id,zo⟩ at_).fl,Bo (pAt (z0j c) ⟨id,zo⟩ at_).ho],Bo bb,Bo (!bb)]) S2 z2)):=by kernel_rfl
structure Cs where
 pre:List (Option HB)
 d:Option HB
 J:List (Option HB)
 T:List (Nat×(Nat×Nat))
def stT (K:Nat)(c:Cs)(cs:List AV)(f u:Int)(es:List (AV×AV))(W:List Nat):St:=⟨(c.pre++[some (.map es),some (.cells (cs++[.mp K]) 185),c.d,some (.cells [.ptr (K+1) 0] 104),some (.cells [I f] 3),some (.cells [I u] 3)])++c.J,c.T,W⟩
def trn (ds:List Dcr)(m:Mst)(n:Int):Trn:=⟨n,(SV ds m n).fl,(SV ds m n).ho⟩
def w7s (ds:List Dcr)(m:Mst)(f u:Int):List Trn:=if f < u then trn ds m f::(chg (SV ds m) (u-f-1).toNat (f+1)).map (fun p=>trn ds m p.1) else []
theorem w8b {ds:List Dcr}{m:Mst}{n u:Int}(h0:0≤n)(h1:n < u)(hu:u≤144001440)(hz:-720≤m.zo∧m.zo≤840) :
  w7s ds m n u=trn ds m n::(if (z5y ds m n).2=true then w7s ds m (z5y ds m n).1 u else [])∧((z5y ds m n).2=true→n < (z5y ds m n).1):=by
 have hn:=w44 (ds:=ds) (m:=m) h0 (show n≤144001439 by omega) hz
 have e1:(n+1:Int)-1=n:=by omega
 have hc:=w84 (f:=SV ds m) (u-n-1).toNat (n+1)
 rw[e1]at hc
 have ht:w7s ds m n u=trn ds m n::(chg (SV ds m) (u-n-1).toNat (n+1)).map (fun p=>trn ds m p.1):=by unfold w7s;rw[if_pos h1]
 rw[ht]
 by_cases hb:(z5y ds m n).2=true
 ·rw[if_pos hb]at hn ⊢
  obtain ⟨q1,q2,q3,q4⟩:=w3e hn
  refine ⟨?_,fun _=>by omega⟩
  generalize (z5y ds m n).1=t at q1 q2 q3 q4 ⊢
  by_cases hu2:t < u
  ·rw[y5i q1 (by omega) q3 q4]at hc
   have ek:(n+1+((u-n-1).toNat:Int)-(t+1)).toNat=(u-t-1).toNat:=by omega
   rw[hc]
   unfold w7s
   rw[if_pos hu2]
   simp only[ek,List.map_cons]
  ·have:y3i (SV ds m) (SV ds m n) (u-n-1).toNat (n+1)=none:=y5j fun w w1 w2=>q4 w w1 (by omega)
   rw[this]at hc
   rw[hc]
   unfold w7s
   rw[if_neg hu2]
   rfl
 ·rw[if_neg hb]at hn ⊢
  have q:=w3k hn
  have:y3i (SV ds m) (SV ds m n) (u-n-1).toNat (n+1)=none:=y5j fun w w1 w2=>q w w1 (by omega)
  rw[this]at hc
  rw[hc]
  exact ⟨rfl,fun h=>absurd h hb⟩
theorem w71 {ds:List Dcr}{m:Mst}{n u:Int}(h:¬ n < u):w7s ds m n u=[]:=by unfold w7s;rw[if_neg h]
structure Sink (K:Nat) (rd:RdG) (cs:List AV) (f u:Int) (P:List Trn→Cs→Prop) (F:List Trn→Trn→Cs→Prop):Prop where
 step:∀ L x c es W,okBlk (K+6) (some (.map es))=true→P L c→∃ j c' W',rd [.agg (x9p x)] (stT K c cs f u es W)=some (j,stT K c' cs f u es W')∧((j=none∧P (L++[x]) c')∨(j=some .ret∧F L x c'))
 len:∀ L c,P L c→c.pre.length=K
 lenF:∀ L x c,F L x c→c.pre.length=K
 ok:∀ L c,P L c→(c.pre++[c.d]).all (okBlk (K+6))=true
 okF:∀ L x c,F L x c→(c.pre++[c.d]).all (okBlk (K+6))=true
theorem w8a:cd PP 164 [1,0,0]=.seq (cd PP 164 [1,0,0,0]) (.seq (.block 1 (.seq (.region 3 ops164 false) (.cond (.tmp 28) .ret .skip))) (cd PP 164 [1,0,0,1,1])):=by kernel_rfl
theorem w79:w7u (cd PP 164 [1,0,0,0])=true:=by kernel_rfl
theorem v0i:w7u (cd PP 164 [1,0,0,1,1])=true:=by kernel_rfl
def kT (j:Option Code)(S':St):KontR:=fun x e s z=>(x=.exit 0∨x=.ret)∧z=⟨j,0⟩∧s.hs=S'.hs∧s.ts=S'.ts
theorem w73 {α:Type}{n:Nat}{l:List α}(h:l.length=n+1):∃ a r,l=a::r∧r.length=n:=by
 cases l with
 | nil=>simp at h
 | cons a r=>exact ⟨a,r,rfl,by simpa using h⟩
theorem w8m {α:Type}{l:List α}(h:l.length=9):∃ b0 b1 b2 b3 b4 b5 b6 b7 b8,l=[b0,b1,b2,b3,b4,b5,b6,b7,b8]:=by
 obtain ⟨b0,r0,rfl,h0⟩:=w73 h
 obtain ⟨b1,r1,rfl,h1⟩:=w73 h0
 obtain ⟨b2,r2,rfl,h2⟩:=w73 h1
 obtain ⟨b3,r3,rfl,h3⟩:=w73 h2
 obtain ⟨b4,r4,rfl,h4⟩:=w73 h3
 obtain ⟨b5,r5,rfl,h5⟩:=w73 h4
 obtain ⟨b6,r6,rfl,h6⟩:=w73 h5
 obtain ⟨b7,r7,rfl,h7⟩:=w73 h6
 obtain ⟨b8,r8,rfl,h8⟩:=w73 h7
 obtain rfl:=List.length_eq_zero_iff.1 h8
 exact ⟨b0,b1,b2,b3,b4,b5,b6,b7,b8,rfl⟩
theorem w8i {α:Type}{l:List α}(h:l.length=10):∃ b0 b1 b2 b3 b4 b5 b6 b7 b8 b9,l=[b0,b1,b2,b3,b4,b5,b6,b7,b8,b9]:=by
 obtain ⟨b0,r0,rfl,h0⟩:=w73 h
 obtain ⟨b1,b2,b3,b4,b5,b6,b7,b8,b9,rfl⟩:=w8m h0
 exact ⟨b0,b1,b2,b3,b4,b5,b6,b7,b8,b9,rfl⟩
theorem v0h:cd PP 164 []=.seq (cd PP 164 [0]) (.block 0 (.loop (cd PP 164 [1,0,0]))):=by kernel_rfl
theorem v0g:w7u (cd PP 164 [0])=true:=by kernel_rfl
theorem w74 {K:Nat}{c:Cs}{ms:List Mst}{ds:List Dcr}{id zo f u:Int}{es:List (AV×AV)}{W:List Nat}(hJ:c.J=[])(h1:(c.pre++[c.d]).all (okBlk (K+6))=true)(h2:okBlk (K+6) (some (.map es))=true):(stT K c (mV ms ds id zo) f u es W).hs.all (okBlk (K+6))=true:=by
 rw[List.all_append,Bool.and_eq_true]at h1
 obtain ⟨hok1,hok2⟩:=h1
 simp only[List.all_cons,List.all_nil,Bool.and_true]at hok2
 simp only[stT,hJ,List.append_nil]
 rw[List.all_append,hok1,List.all_cons,h2,List.all_cons,List.all_cons,hok2]
 simp[okBlk,noHB,noHL,noH,eM.noHL',eD.noHL',eNum.noHL',mV]
section
variable {ms:List Mst}{ds:List Dcr}{id zo:Int}(hd:∀ x∈ds,DecOk x)(hml:ms.length≤40)(hdl:ds.length≤100)(hz1:-720≤zo)(hz2:zo≤840)
include hd hml hdl hz1 hz2
theorem w9w {rd:RdG}{f u:Int}(hf:0≤f)(hu:u≤144001440){P:List Trn→Cs→Prop}{F:List Trn→Trn→Cs→Prop}(hs:Sink 9 rd (mV ms ds id zo) f u P F) :
  ∀ (d:Nat) (n:Int) (ok:Bool) (L:List Trn) (es:List (AV×AV)) (W:List Nat) (c:Cs),(ok=true→(u-n).toNat≤d)→(ok=true→f≤n)→MapOk ds ⟨id,zo⟩ es→P L c →
  ∃ (j:Option Code) (c':Cs) (es':List (AV×AV)) (R:List Trn),(ok=true→R=w7s ds ⟨id,zo⟩ n u)∧(ok=false→R=[])∧MapOk ds ⟨id,zo⟩ es'∧((j=none∧P (L++R) c')∨(j=some .ret∧∃ L1 x L2,L++R=L1++x::L2∧F L1 x c')) ∧
   ∀ l (kk:KontR),(∀ x e s z,kT j (stT 9 c' (mV ms ds id zo) f u es' []) x e s z→kk x e s z)→∃ q,LR XL.cx 4096 (some l) (YG rd) q (cd PP 164 [1,0,0]) ([.fn (.yield l) [] [],X,.ptr 14 0,.ptr 12 0,X,I n,Bo ok]++replicate 22 X) (stT 9 c (mV ms ds id zo) f u es W) ⟨none,0⟩ kk:=by
 intro d
 induction d with
 | zero =>
  intro n ok L es W c hdd hn hM hP
  refine ⟨none,c,es,[],fun h=>(w71 (by have:=hdd h;omega)).symm,fun _=>rfl,hM,.inl ⟨rfl,by rw[List.append_nil];exact hP⟩,fun l kk hkk=>⟨1,LR.step ?_⟩⟩
  have hlen:=hs.len L c hP
  obtain ⟨pre,d,J,T⟩:=c
  obtain ⟨b0,b1,b2,b3,b4,b5,b6,b7,b8,rfl⟩:∃ b0 b1 b2 b3 b4 b5 b6 b7 b8,pre=[b0,b1,b2,b3,b4,b5,b6,b7,b8]:=w8m hlen
  rw[w8a]
  refine RW.seq (RW.of_wpN xlo xlok xlm xlc w79 ?_)
  refine (w8u b0 b1 b2 b3 b4 b5 b6 b7 b8 d J _ _ _ _ _ _ l id zo f u n es T W ok _).mpr (z0i (fun h=>z02 (df (by have:=hdd h;omega)) (hkk _ _ _ _ ⟨.inl rfl,rfl,rfl,rfl⟩)) (fun _=>(hkk _ _ _ _ ⟨.inl rfl,rfl,rfl,rfl⟩)))
 | succ d ih =>
  intro n ok L es W c hdd hn hM hP
  have hlen:=hs.len L c hP
  by_cases hgo:ok=true∧n < u
  ·obtain ⟨rfl,hnu⟩:=hgo
   have hn:=hn rfl
   have hdd:=hdd rfl
   have hO:=y8h hd hml hdl hz1 hz2 hM
   have hM2:=x8c (m:=n) hO (by omega) (by omega)
   have hO2:=y8h hd hml hdl hz1 hz2 hM2
   have hM3:=w9k (m:=n) hO2 (by omega) (by omega)
   obtain ⟨g1,g2⟩:=w8b (ds:=ds) (m:=⟨id,zo⟩) (n:=n) (u:=u) (by omega) hnu hu ⟨hz1,hz2⟩
   have hp:=(y8e hd ⟨id,zo⟩ n).1
   have hp1:(pAt ds ⟨id,zo⟩ n).fl=(SV ds ⟨id,zo⟩ n).fl:=congrArg Sho.fl hp
   have hp2:(pAt ds ⟨id,zo⟩ n).ho=(SV ds ⟨id,zo⟩ n).ho:=congrArg Sho.ho hp
   obtain ⟨j,c1,W1,hrd,hcase⟩:=hs.step L (trn ds ⟨id,zo⟩ n) c (E79 n (mV ms ds id zo) es) (z2i [9,10] W) (y5a hM2 _) hP
   have start:∀ (l:Nat) (q:Nat) (kk:KontR),(RW XL.cx 4096 (some l) (YG rd) (.cond (.tmp 28) .ret .skip) ([.fn (.yield l) [] [],X,.ptr 14 0,.ptr 12 0,X,I n,X,X,X,X,X,X,X,X,X,X,X,X,X,X,.fn (.yield l) [] [],I n,.ptr 10 0,I n,.agg [I (pAt ds ⟨id,zo⟩ n).of,I (pAt ds ⟨id,zo⟩ n).fl,Bo (pAt ds ⟨id,zo⟩ n).ho,I (pAt ds ⟨id,zo⟩ n).pf,I (pAt ds ⟨id,zo⟩ n).ph],.agg [I (pAt ds ⟨id,zo⟩ n).fl,Bo (pAt ds ⟨id,zo⟩ n).ho],.agg [I n,I (pAt ds ⟨id,zo⟩ n).fl,Bo (pAt ds ⟨id,zo⟩ n).ho],Bo j.isNone,Bo (!j.isNone)]) (stT 9 c1 (mV ms ds id zo) f u (E79 n (mV ms ds id zo) es) W1) ⟨j,0⟩ (y3h 1 (w0t XL.cx 4096 (some l) (YG rd) (cd PP 164 [1,0,0,1,1]) (x9f XL.cx 4096 (some l) (YG rd) q (cd PP 164 [1,0,0]) kk)))) →
     LR XL.cx 4096 (some l) (YG rd) (q+1) (cd PP 164 [1,0,0]) ([.fn (.yield l) [] [],X,.ptr 14 0,.ptr 12 0,X,I n,Bo true]++replicate 22 X) (stT 9 c (mV ms ds id zo) f u es W) ⟨none,0⟩ kk:=fun l q kk hk=>by
    obtain ⟨pre,d0,J,T⟩:=c
    obtain ⟨b0,b1,b2,b3,b4,b5,b6,b7,b8,rfl⟩:∃ b0 b1 b2 b3 b4 b5 b6 b7 b8,pre=[b0,b1,b2,b3,b4,b5,b6,b7,b8]:=w8m hlen
    refine LR.step ?_
    show RW _ _ _ _ (cd PP 164 [1,0,0]) _ _ _ _
    rw[w8a]
    refine RW.seq (RW.of_wpN xlo xlok xlm xlc w79 ?_)
    refine (w8u b0 b1 b2 b3 b4 b5 b6 b7 b8 d0 J _ _ _ _ _ _ l id zo f u n es T W true _).mpr (z0h rfl (z0h (dt hnu) ?_))
    show RW _ _ _ _ (.seq (.block 1 (.seq (.region 3 ops164 false) (.cond (.tmp 28) .ret .skip))) (cd PP 164 [1,0,0,1,1])) _ _ _ _
    refine RW.mask' [0,2,3,5] (env':=[.fn (.yield l) [] [],X,.ptr 14 0,.ptr 12 0,X,I n,X]++replicate 22 X) rfl ?_
    refine RW.seq (RW.block (RW.seq (RW.congr (C:=XL.pc) rfl rfl (RW.regionY xlo xlok ?_))))
    refine (v1i b0 b1 b2 b3 b4 b5 b6 b7 b8 d0 J _ _ _ _ _ _ l id zo f u n es T W rd ⟨none,0⟩ _).mpr ⟨⟨⟨ms,ds,hO⟩,by omega,by omega⟩,⟨rfl,rfl⟩,rfl,rfl,j,stT 9 c1 (mV ms ds id zo) f u (E79 n (mV ms ds id zo) es) W1,?_,?_⟩
    ·rw[z1m,hp1,hp2]
     exact hrd
    ·rw[z1m]
     exact hk
   rcases hcase with ⟨rfl,hP1⟩ | ⟨rfl,hF1⟩
   ·have hlen1:=hs.len _ c1 hP1
    obtain ⟨j2,c2,es2,R2,r1,r2,r3,r4,r5⟩:=ih (z5y ds ⟨id,zo⟩ n).1 (z5y ds ⟨id,zo⟩ n).2 (L++[trn ds ⟨id,zo⟩ n]) (E83 n (mV ms ds id zo) (E79 n (mV ms ds id zo) es)) [] c1 (fun h=>by have:=g2 h;omega) (fun h=>by have:=g2 h;omega) hM3 hP1
    refine ⟨j2,c2,es2,trn ds ⟨id,zo⟩ n::R2,fun _=>?_,fun h=>(by simp at h),r3,?_,fun l kk hkk=>?_⟩
    ·rw[g1]
     cases hb:(z5y ds ⟨id,zo⟩ n).2 with
     | true=>rw[if_pos rfl,← r1 hb]
     | false=>rw[if_neg (by simp),r2 hb]
    ·rw[List.append_assoc]at r4
     exact r4
    ·obtain ⟨q,hq⟩:=r5 l kk hkk
     refine ⟨q+1,start l q _ ?_⟩
     refine RW.cond (t:=false) rfl (RW.skip ?_)
     show RW _ _ _ _ (cd PP 164 [1,0,0,1,1]) _ _ _ _
     refine RW.mask' [0,2,3,5] (env':=[.fn (.yield l) [] [],X,.ptr 14 0,.ptr 12 0,X,I n,X]++replicate 22 X) rfl ?_
     refine RW.of_wpN xlo xlok xlm xlc v0i ?_
     obtain ⟨pre,d0,J,T⟩:=c1
     obtain ⟨b0,b1,b2,b3,b4,b5,b6,b7,b8,rfl⟩:∃ b0 b1 b2 b3 b4 b5 b6 b7 b8,pre=[b0,b1,b2,b3,b4,b5,b6,b7,b8]:=w8m hlen1
     refine (v1k b0 b1 b2 b3 b4 b5 b6 b7 b8 d0 J _ _ _ _ _ _ l id zo f u n _ T W1 _).mpr ⟨⟨⟨ms,ds,hO2⟩,by omega,by omega⟩,⟨rfl,rfl⟩,?_⟩
     rw[z1m]
     refine LR.mask' [0,2,3,5,6] (env':=[.fn (.yield l) [] [],X,.ptr 14 0,.ptr 12 0,X,I (z5y ds ⟨id,zo⟩ n).1,Bo (z5y ds ⟨id,zo⟩ n).2]++replicate 22 X) rfl (LR.wl ?_)
     exact hq
   ·refine ⟨some .ret,c1,E79 n (mV ms ds id zo) es,w7s ds ⟨id,zo⟩ n u,fun _=>rfl,fun h=>(by simp at h),hM2,.inr ⟨rfl,L,trn ds ⟨id,zo⟩ n,if (z5y ds ⟨id,zo⟩ n).2=true then w7s ds ⟨id,zo⟩ (z5y ds ⟨id,zo⟩ n).1 u else [],congrArg (L++·) g1,hF1⟩,fun l kk hkk=>⟨1,start l 0 _ ?_⟩⟩
    ·exact RW.cond (t:=true) rfl (RW.ret (hkk _ _ _ _ ⟨.inr rfl,rfl,rfl,rfl⟩))
  ·refine ⟨none,c,es,[],fun h=>?_,fun _=>rfl,hM,.inl ⟨rfl,by rw[List.append_nil];exact hP⟩,fun l kk hkk=>⟨1,LR.step ?_⟩⟩
   ·exact (w71 fun h2=>hgo ⟨h,h2⟩).symm
   obtain ⟨pre,d,J,T⟩:=c
   obtain ⟨b0,b1,b2,b3,b4,b5,b6,b7,b8,rfl⟩:∃ b0 b1 b2 b3 b4 b5 b6 b7 b8,pre=[b0,b1,b2,b3,b4,b5,b6,b7,b8]:=w8m hlen
   rw[w8a]
   refine RW.seq (RW.of_wpN xlo xlok xlm xlc w79 ?_)
   refine (w8u b0 b1 b2 b3 b4 b5 b6 b7 b8 d J _ _ _ _ _ _ l id zo f u n es T W ok _).mpr (z0i (fun h=>z02 (df fun h2=>hgo ⟨h,h2⟩) (hkk _ _ _ _ ⟨.inl rfl,rfl,rfl,rfl⟩)) (fun _=>(hkk _ _ _ _ ⟨.inl rfl,rfl,rfl,rfl⟩)))
theorem w9v {rd:RdG}{f u:Int}(hf:0≤f)(hu:u≤144001440){P:List Trn→Cs→Prop}{F:List Trn→Trn→Cs→Prop}(hs:Sink 9 rd (mV ms ds id zo) f u P F){es:List (AV×AV)}{W:List Nat}{c:Cs}(hJ:c.J=[])(hM:MapOk ds ⟨id,zo⟩ es)(hP:P [] c) :
  ∃ (j:Option Code) (c':Cs) (es':List (AV×AV)),MapOk ds ⟨id,zo⟩ es'∧((j=none∧P (w7s ds ⟨id,zo⟩ f u) c')∨(j=some .ret∧∃ L1 x L2,w7s ds ⟨id,zo⟩ f u=L1++x::L2∧F L1 x c')) ∧
   SeqG XL.cx 164 [] [.ptr 13 0,.ptr 14 0,.ptr 12 0] rd (stT 9 c (mV ms ds id zo) f u es W) j (stT 9 { c' with J:=[] } (mV ms ds id zo) f u es' []):=by
 obtain ⟨j,c',es',R,r1,-,r3,r4,r5⟩:=w9w hd hml hdl hz1 hz2 hf hu hs (u-f).toNat f true [] es [] c (fun _=>Nat.le_refl _) (fun _=>Int.le_refl _) hM hP
 obtain rfl:=r1 rfl
 have hlen:=hs.len _ c hP
 have hlen':c'.pre.length=9:=by
  rcases r4 with ⟨-,h⟩ | ⟨-,_,_,_,-,h⟩
  ·exact hs.len _ _ h
  ·exact hs.lenF _ _ _ h
 have hok:(c'.pre++[c'.d]).all (okBlk 15)=true:=by
  rcases r4 with ⟨-,h⟩ | ⟨-,_,_,_,-,h⟩
  ·exact hs.ok _ _ h
  ·exact hs.okF _ _ _ h
 refine ⟨j,c',es',r3,r4,SeqG.of_RW xlok Tryz.func164 (c:=cd PP 164 []) (by kernel_rfl) rfl fun l=>?_⟩
 have hl15:(stT 9 c (mV ms ds id zo) f u es W).hs.length=15:=by simp[stT,hlen,hJ]
 rw[hl15,v0h]
 have tk:(stT 9 c' (mV ms ds id zo) f u es' []).hs.take 15=(stT 9 { c' with J:=[] } (mV ms ds id zo) f u es' []).hs:=by
  simp only[stT,List.append_nil]
  rw[List.take_append_of_le_length (by simp[hlen']),List.take_of_length_le (by simp[hlen'])]
 have key:RW XL.cx 4096 (some l) (YG rd) (.block 0 (.loop (cd PP 164 [1,0,0]))) ([.fn (.yield l) [] [],X,.ptr 14 0,.ptr 12 0,X,I f,Bo true]++replicate 22 X) (stT 9 c (mV ms ds id zo) f u es []) ⟨none,0⟩ fun x e s z=>(x=.normal∨x=.ret)∧z=⟨j,0⟩∧(s.hs.take 15).all (okBlk 15)=true∧stT 9 { c' with J:=[] } (mV ms ds id zo) f u es' []=⟨s.hs.take 15,s.ts,[]⟩:=by
  suffices hk:∀ x e s z,kT j (stT 9 c' (mV ms ds id zo) f u es' []) x e s z→(y3h 0 fun x e s z=>(x=.normal∨x=.ret)∧z=⟨j,0⟩∧(s.hs.take 15).all (okBlk 15)=true∧stT 9 { c' with J:=[] } (mV ms ds id zo) f u es' []=⟨s.hs.take 15,s.ts,[]⟩) x e s z from by
   obtain ⟨q,hq⟩:=r5 l _ hk
   exact RW.block (RW.loop hq)
  rintro x e s z ⟨hx,rfl,h1,h2⟩
  have fin:(s.hs.take 15).all (okBlk 15)=true∧stT 9 { c' with J:=[] } (mV ms ds id zo) f u es' []=⟨s.hs.take 15,s.ts,[]⟩:=by
   rw[h1,tk,h2]
   refine ⟨?_,rfl⟩
   rw[List.all_append,Bool.and_eq_true]at hok
   obtain ⟨hok1,hok2⟩:=hok
   simp only[List.all_cons,List.all_nil,Bool.and_true]at hok2
   simp only[stT,List.append_nil]
   rw[List.all_append,hok1,List.all_cons,y5a r3,List.all_cons,List.all_cons,hok2]
   simp[okBlk,noHB,noHL,noH,eM.noHL',eD.noHL',eNum.noHL']
  rcases hx with rfl | rfl
  ·exact ⟨.inl rfl,rfl,fin⟩
  ·exact ⟨.inr rfl,rfl,fin⟩
 obtain ⟨pre,d,J,T⟩:=c
 obtain ⟨b0,b1,b2,b3,b4,b5,b6,b7,b8,rfl⟩:∃ b0 b1 b2 b3 b4 b5 b6 b7 b8,pre=[b0,b1,b2,b3,b4,b5,b6,b7,b8]:=w8m hlen
 obtain rfl:J=[]:=hJ
 refine RW.seq (RW.of_wpN xlo xlok xlm xlc v0g ?_)
 refine (v1j b0 b1 b2 b3 b4 b5 b6 b7 b8 d [] _ _ _ _ _ _ l id zo f u es T W _).mpr ?_
 show RW _ _ _ _ (.block 0 (.loop (cd PP 164 [1,0,0]))) _ _ _ _
 exact RW.mask' [0,2,3,5,6] rfl (RW.wl key)
end
end Go.Proofs
namespace Go.Proofs
open Go Go.Ev
theorem w8j (b0 b1 b2 b3 b4 b5 b6 b7 b8 b9 d:Option HB)(J:List (Option HB))(a c b:List AV)(n k nb l:Nat)(id zo f u at_:Int)(es:List (AV×AV))(T:List (Nat×(Nat×Nat)))(W:List Nat)(ok:Bool)(Q:EX→Env→St→Prop):wpC XL (cd PP 164 [1,0,0,0]) ([.fn (.yield l) [] [],X,.ptr 15 0,.ptr 13 0,X,I at_,Bo ok]++replicate 22 X) ⟨([b0,b1,b2,b3,b4,b5,b6,b7,b8,b9,some (.map es),some (.cells [.vs a n .none,.vs c k .none,I id,I zo,.vs b nb .none,.mp 10] 185),d,some (.cells [.ptr 11 0] 104),some (.cells [I f] 3),some (.cells [I u] 3)]++J),T,W⟩ Q =
 (cIf ok (cIf (decide (at_ < u)) (Q EX.normal ([AV.fn (Fn.yield l) [] [],X,ptr 15 0,ptr 13 0,X,I at_,Bo ok,X,Bo ok,Bo true,I at_,I u,Bo (decide (at_ < u)),Bo (decide (at_ < u))]++replicate 15 X) (St.mk ([b0,b1,b2,b3,b4,b5,b6,b7,b8,b9,some (map es),some (cells [vs a n .none,vs c k .none,I id,I zo,vs b nb .none,mp 10] (185:Nat)),d,some (cells [ptr 11 0] (104:Nat)),some (cells [I f] (3:Nat)),some (cells [I u] (3:Nat))]++J) T W)) (Q (EX.exit 0) ([AV.fn (Fn.yield l) [] [],X,ptr 15 0,ptr 13 0,X,I at_,Bo ok,X,Bo ok,Bo true,I at_,I u,Bo (decide (at_ < u)),Bo (decide (at_ < u))]++replicate 15 X) (St.mk ([b0,b1,b2,b3,b4,b5,b6,b7,b8,b9,some (map es),some (cells [vs a n .none,vs c k .none,I id,I zo,vs b nb .none,mp 10] (185:Nat)),d,some (cells [ptr 11 0] (104:Nat)),some (cells [I f] (3:Nat)),some (cells [I u] (3:Nat))]++J) T W))) (Q (EX.exit 0) ([AV.fn (Fn.yield l) [] [],X,ptr 15 0,ptr 13 0,X,I at_,Bo ok,X,Bo ok,Bo false,tup [],tup [],tup [],Bo false]++replicate 15 X) (St.mk ([b0,b1,b2,b3,b4,b5,b6,b7,b8,b9,some (map es),some (cells [vs a n .none,vs c k .none,I id,I zo,vs b nb .none,mp 10] (185:Nat)),d,some (cells [ptr 11 0] (104:Nat)),some (cells [I f] (3:Nat)),some (cells [I u] (3:Nat))]++J) T W))):=by kernel_rfl
theorem v0k (b0 b1 b2 b3 b4 b5 b6 b7 b8 b9 d:Option HB)(J:List (Option HB))(a c b:List AV)(n k nb l:Nat)(id zo f u:Int)(es:List (AV×AV))(T:List (Nat×(Nat×Nat)))(W:List Nat)(Q:EX→Env→St→Prop):wpC XL (cd PP 164 [0]) ([.fn (.yield l) [] [],.ptr 14 0,.ptr 15 0,.ptr 13 0]++replicate 25 X) ⟨([b0,b1,b2,b3,b4,b5,b6,b7,b8,b9,some (.map es),some (.cells [.vs a n .none,.vs c k .none,I id,I zo,.vs b nb .none,.mp 10] 185),d,some (.cells [.ptr 11 0] 104),some (.cells [I f] 3),some (.cells [I u] 3)]++J),T,W⟩ Q =
 (Q EX.normal ([AV.fn (Fn.yield l) [] [],ptr 14 0,ptr 15 0,ptr 13 0,X,I f,Bo true,I f]++replicate 21 X) (St.mk ([b0,b1,b2,b3,b4,b5,b6,b7,b8,b9,some (map es),some (cells [vs a n .none,vs c k .none,I id,I zo,vs b nb .none,mp 10] (185:Nat)),d,some (cells [ptr 11 0] (104:Nat)),some (cells [I f] (3:Nat)),some (cells [I u] (3:Nat))]++J) T W)):=by kernel_rfl
theorem v0l (b0 b1 b2 b3 b4 b5 b6 b7 b8 b9 d:Option HB)(J:List (Option HB))(a c b:List AV)(n k nb l:Nat)(id zo f u at_:Int)(es:List (AV×AV))(T:List (Nat×(Nat×Nat)))(W:List Nat)(Q:EX→Env→St→Prop):wpC XL (cd PP 164 [1,0,0,1,1]) ([.fn (.yield l) [] [],X,.ptr 15 0,.ptr 13 0,X,I at_,X]++replicate 22 X) ⟨([b0,b1,b2,b3,b4,b5,b6,b7,b8,b9,some (.map es),some (.cells [.vs a n .none,.vs c k .none,I id,I zo,.vs b nb .none,.mp 10] 185),d,some (.cells [.ptr 11 0] 104),some (.cells [I f] 3),some (.cells [I u] 3)]++J),T,W⟩ Q =
 (((∃ ms,∃ ds,ObjOk a c b n k nb id zo es ms ds)∧(0:Int)≤at_∧at_≤144001439)∧((185:Nat)=(185:Nat)∧[vs a n .none,vs c k .none,I id,I zo,vs b nb .none,mp 10]=List.take 5 [vs a n .none,vs c k .none,I id,I zo,vs b nb .none,mp 10]++[mp (nat_lit 10)])∧Q EX.normal ([AV.fn (Fn.yield l) [] [],X,ptr 15 0,ptr 13 0,X,I (z5y (z0j c) (Mst.mk id zo) at_).fst,Bo (z5y (z0j c) (Mst.mk id zo) at_).snd,X,X,X,X,X,X,X,tup [I (z5y (z0j c) (Mst.mk id zo) at_).fst,Bo (z5y (z0j c) (Mst.mk id zo) at_).snd],ptr 11 0,I at_,tup [I (z5y (z0j c) (Mst.mk id zo) at_).fst,Bo (z5y (z0j c) (Mst.mk id zo) at_).snd],I (z5y (z0j c) (Mst.mk id zo) at_).fst,Bo (z5y (z0j c) (Mst.mk id zo) at_).snd]++replicate 9 X) (St.mk (([b0,b1,b2,b3,b4,b5,b6,b7,b8,b9,some (map es),some (cells [vs a n .none,vs c k .none,I id,I zo,vs b nb .none,mp 10] (185:Nat)),d,some (cells [ptr 11 0] (104:Nat)),some (cells [I f] (3:Nat)),some (cells [I u] (3:Nat))]++J).set (nat_lit 10) (some (map (E83 at_ [vs a n .none,vs c k .none,I id,I zo,vs b nb .none] es)))) T (z2i [nat_lit 10,11] (St.mk ([b0,b1,b2,b3,b4,b5,b6,b7,b8,b9,some (map es),some (cells [vs a n .none,vs c k .none,I id,I zo,vs b nb .none,mp 10] (185:Nat)),d,some (cells [ptr 11 0] (104:Nat)),some (cells [I f] (3:Nat)),some (cells [I u] (3:Nat))]++J) T W).wl))):=by kernel_rfl
end Go.Proofs
namespace Go.Proofs
open Go Go.Ev
theorem v0j (b0 b1 b2 b3 b4 b5 b6 b7 b8 b9 d:Option HB)(J:List (Option HB))(a c b:List AV)(n k nb l:Nat)(id zo f u at_:Int)(es:List (AV×AV))(T:List (Nat×(Nat×Nat)))(W:List Nat)(rd:RdG)(z:Zs)(Q:KontR):w72 XL (YG rd) l ops164.toList ([.fn (.yield l) [] [],X,.ptr 15 0,.ptr 13 0,X,I at_,X]++replicate 22 X) ⟨([b0,b1,b2,b3,b4,b5,b6,b7,b8,b9,some (.map es),some (.cells [.vs a n .none,.vs c k .none,I id,I zo,.vs b nb .none,.mp 10] 185),d,some (.cells [.ptr 11 0] 104),some (.cells [I f] 3),some (.cells [I u] 3)]++J),T,W⟩ z Q =
  (((∃ ms,∃ ds,ObjOk a c b n k nb id zo es ms ds)∧0≤at_∧at_≤144001439)∧((185:Nat)=185∧[vs a n .none,.vs c k .none,I id,I zo,.vs b nb .none,.mp 10]=List.take 5 [vs a n .none,.vs c k .none,I id,I zo,.vs b nb .none,.mp 10]++[.mp 10])∧(l=l∧YG rd [.agg [I at_,I (pAt (z0j c) ⟨id,zo⟩ at_).fl,Bo (pAt (z0j c) ⟨id,zo⟩ at_).ho]] ⟨([b0,b1,b2,b3,b4,b5,b6,b7,b8,b9,some (.map (E79 at_ [.vs a n .none,.vs c k .none,I id,I zo,.vs b nb .none] es)),some (.cells [.vs a n .none,.vs c k .none,I id,I zo,.vs b nb .none,.mp 10] 185),d,some (.cells [.ptr 11 0] 104),some (.cells [I f] 3),some (.cells [I u] 3)]++J),T,z2i [10,11] W⟩ z fun bb S2 z2=>Q .normal ([.fn (.yield l) [] [],X,.ptr 15 0,.ptr 13 0,X,I at_,X,X,X,X,X,X,X,X,X,X,X,X,X,X,.fn (.yield l) [] [],I at_,.ptr 11 0,I at_,.agg [I (pAt (z0j c) ⟨id,zo⟩ at_).of,I (pAt (z0j c) ⟨id,zo⟩ at_).fl,Bo (pAt (z0j c) ⟨id,zo⟩ at_).ho,I (pAt (z0j c) ⟨id,zo⟩ at_).pf,I (pAt (z0j c) ⟨id,zo⟩ at_).ph],.agg [I (pAt (z0j c) ⟨id,zo⟩ at_).fl,Bo (pAt (z0j c) ⟨id,zo⟩ at_).ho],.agg [I at_,I (pAt (z0j c) ⟨id,zo⟩ at_).fl,Bo (pAt (z0j c) ⟨id,zo⟩ at_).ho],Bo bb,Bo (!bb)]) S2 z2)):=by kernel_rfl
section
variable {ms:List Mst}{ds:List Dcr}{id zo:Int}(hd:∀ x∈ds,DecOk x)(hml:ms.length≤40)(hdl:ds.length≤100)(hz1:-720≤zo)(hz2:zo≤840)
include hd hml hdl hz1 hz2
theorem w9i {rd:RdG}{f u:Int}(hf:0≤f)(hu:u≤144001440){P:List Trn→Cs→Prop}{F:List Trn→Trn→Cs→Prop}(hs:Sink 10 rd (mV ms ds id zo) f u P F) :
  ∀ (d:Nat) (n:Int) (ok:Bool) (L:List Trn) (es:List (AV×AV)) (W:List Nat) (c:Cs),(ok=true→(u-n).toNat≤d)→(ok=true→f≤n)→MapOk ds ⟨id,zo⟩ es→P L c →
  ∃ (j:Option Code) (c':Cs) (es':List (AV×AV)) (R:List Trn),(ok=true→R=w7s ds ⟨id,zo⟩ n u)∧(ok=false→R=[])∧MapOk ds ⟨id,zo⟩ es'∧((j=none∧P (L++R) c')∨(j=some .ret∧∃ L1 x L2,L++R=L1++x::L2∧F L1 x c')) ∧
   ∀ l (kk:KontR),(∀ x e s z,kT j (stT 10 c' (mV ms ds id zo) f u es' []) x e s z→kk x e s z)→∃ q,LR XL.cx 4096 (some l) (YG rd) q (cd PP 164 [1,0,0]) ([.fn (.yield l) [] [],X,.ptr 15 0,.ptr 13 0,X,I n,Bo ok]++replicate 22 X) (stT 10 c (mV ms ds id zo) f u es W) ⟨none,0⟩ kk:=by
 intro d
 induction d with
 | zero =>
  intro n ok L es W c hdd hn hM hP
  refine ⟨none,c,es,[],fun h=>(w71 (by have:=hdd h;omega)).symm,fun _=>rfl,hM,.inl ⟨rfl,by rw[List.append_nil];exact hP⟩,fun l kk hkk=>⟨1,LR.step ?_⟩⟩
  have hlen:=hs.len L c hP
  obtain ⟨pre,d,J,T⟩:=c
  obtain ⟨b0,b1,b2,b3,b4,b5,b6,b7,b8,b9,rfl⟩:∃ b0 b1 b2 b3 b4 b5 b6 b7 b8 b9,pre=[b0,b1,b2,b3,b4,b5,b6,b7,b8,b9]:=w8i hlen
  rw[w8a]
  refine RW.seq (RW.of_wpN xlo xlok xlm xlc w79 ?_)
  refine (w8j b0 b1 b2 b3 b4 b5 b6 b7 b8 b9 d J _ _ _ _ _ _ l id zo f u n es T W ok _).mpr (z0i (fun h=>z02 (df (by have:=hdd h;omega)) (hkk _ _ _ _ ⟨.inl rfl,rfl,rfl,rfl⟩)) (fun _=>(hkk _ _ _ _ ⟨.inl rfl,rfl,rfl,rfl⟩)))
 | succ d ih =>
  intro n ok L es W c hdd hn hM hP
  have hlen:=hs.len L c hP
  by_cases hgo:ok=true∧n < u
  ·obtain ⟨rfl,hnu⟩:=hgo
   have hn:=hn rfl
   have hdd:=hdd rfl
   have hO:=y8h hd hml hdl hz1 hz2 hM
   have hM2:=x8c (m:=n) hO (by omega) (by omega)
   have hO2:=y8h hd hml hdl hz1 hz2 hM2
   have hM3:=w9k (m:=n) hO2 (by omega) (by omega)
   obtain ⟨g1,g2⟩:=w8b (ds:=ds) (m:=⟨id,zo⟩) (n:=n) (u:=u) (by omega) hnu hu ⟨hz1,hz2⟩
   have hp:=(y8e hd ⟨id,zo⟩ n).1
   have hp1:(pAt ds ⟨id,zo⟩ n).fl=(SV ds ⟨id,zo⟩ n).fl:=congrArg Sho.fl hp
   have hp2:(pAt ds ⟨id,zo⟩ n).ho=(SV ds ⟨id,zo⟩ n).ho:=congrArg Sho.ho hp
   obtain ⟨j,c1,W1,hrd,hcase⟩:=hs.step L (trn ds ⟨id,zo⟩ n) c (E79 n (mV ms ds id zo) es) (z2i [10,11] W) (y5a hM2 _) hP
   have start:∀ (l:Nat) (q:Nat) (kk:KontR),(RW XL.cx 4096 (some l) (YG rd) (.cond (.tmp 28) .ret .skip) ([.fn (.yield l) [] [],X,.ptr 15 0,.ptr 13 0,X,I n,X,X,X,X,X,X,X,X,X,X,X,X,X,X,.fn (.yield l) [] [],I n,.ptr 11 0,I n,.agg [I (pAt ds ⟨id,zo⟩ n).of,I (pAt ds ⟨id,zo⟩ n).fl,Bo (pAt ds ⟨id,zo⟩ n).ho,I (pAt ds ⟨id,zo⟩ n).pf,I (pAt ds ⟨id,zo⟩ n).ph],.agg [I (pAt ds ⟨id,zo⟩ n).fl,Bo (pAt ds ⟨id,zo⟩ n).ho],.agg [I n,I (pAt ds ⟨id,zo⟩ n).fl,Bo (pAt ds ⟨id,zo⟩ n).ho],Bo j.isNone,Bo (!j.isNone)]) (stT 10 c1 (mV ms ds id zo) f u (E79 n (mV ms ds id zo) es) W1) ⟨j,0⟩ (y3h 1 (w0t XL.cx 4096 (some l) (YG rd) (cd PP 164 [1,0,0,1,1]) (x9f XL.cx 4096 (some l) (YG rd) q (cd PP 164 [1,0,0]) kk)))) →
     LR XL.cx 4096 (some l) (YG rd) (q+1) (cd PP 164 [1,0,0]) ([.fn (.yield l) [] [],X,.ptr 15 0,.ptr 13 0,X,I n,Bo true]++replicate 22 X) (stT 10 c (mV ms ds id zo) f u es W) ⟨none,0⟩ kk:=fun l q kk hk=>by
    obtain ⟨pre,d0,J,T⟩:=c
    obtain ⟨b0,b1,b2,b3,b4,b5,b6,b7,b8,b9,rfl⟩:∃ b0 b1 b2 b3 b4 b5 b6 b7 b8 b9,pre=[b0,b1,b2,b3,b4,b5,b6,b7,b8,b9]:=w8i hlen
    refine LR.step ?_
    show RW _ _ _ _ (cd PP 164 [1,0,0]) _ _ _ _
    rw[w8a]
    refine RW.seq (RW.of_wpN xlo xlok xlm xlc w79 ?_)
    refine (w8j b0 b1 b2 b3 b4 b5 b6 b7 b8 b9 d0 J _ _ _ _ _ _ l id zo f u n es T W true _).mpr (z0h rfl (z0h (dt hnu) ?_))
    show RW _ _ _ _ (.seq (.block 1 (.seq (.region 3 ops164 false) (.cond (.tmp 28) .ret .skip))) (cd PP 164 [1,0,0,1,1])) _ _ _ _
    refine RW.mask' [0,2,3,5] (env':=[.fn (.yield l) [] [],X,.ptr 15 0,.ptr 13 0,X,I n,X]++replicate 22 X) rfl ?_
    refine RW.seq (RW.block (RW.seq (RW.congr (C:=XL.pc) rfl rfl (RW.regionY xlo xlok ?_))))
    refine (v0j b0 b1 b2 b3 b4 b5 b6 b7 b8 b9 d0 J _ _ _ _ _ _ l id zo f u n es T W rd ⟨none,0⟩ _).mpr ⟨⟨⟨ms,ds,hO⟩,by omega,by omega⟩,⟨rfl,rfl⟩,rfl,rfl,j,stT 10 c1 (mV ms ds id zo) f u (E79 n (mV ms ds id zo) es) W1,?_,?_⟩
    ·rw[z1m,hp1,hp2]
     exact hrd
    ·rw[z1m]
     exact hk
   rcases hcase with ⟨rfl,hP1⟩ | ⟨rfl,hF1⟩
   ·have hlen1:=hs.len _ c1 hP1
    obtain ⟨j2,c2,es2,R2,r1,r2,r3,r4,r5⟩:=ih (z5y ds ⟨id,zo⟩ n).1 (z5y ds ⟨id,zo⟩ n).2 (L++[trn ds ⟨id,zo⟩ n]) (E83 n (mV ms ds id zo) (E79 n (mV ms ds id zo) es)) [] c1 (fun h=>by have:=g2 h;omega) (fun h=>by have:=g2 h;omega) hM3 hP1
    refine ⟨j2,c2,es2,trn ds ⟨id,zo⟩ n::R2,fun _=>?_,fun h=>(by simp at h),r3,?_,fun l kk hkk=>?_⟩
    ·rw[g1]
     cases hb:(z5y ds ⟨id,zo⟩ n).2 with
     | true=>rw[if_pos rfl,← r1 hb]
     | false=>rw[if_neg (by simp),r2 hb]
    ·rw[List.append_assoc]at r4
     exact r4
    ·obtain ⟨q,hq⟩:=r5 l kk hkk
     refine ⟨q+1,start l q _ ?_⟩
     refine RW.cond (t:=false) rfl (RW.skip ?_)
     show RW _ _ _ _ (cd PP 164 [1,0,0,1,1]) _ _ _ _
     refine RW.mask' [0,2,3,5] (env':=[.fn (.yield l) [] [],X,.ptr 15 0,.ptr 13 0,X,I n,X]++replicate 22 X) rfl ?_
     refine RW.of_wpN xlo xlok xlm xlc v0i ?_
     obtain ⟨pre,d0,J,T⟩:=c1
     obtain ⟨b0,b1,b2,b3,b4,b5,b6,b7,b8,b9,rfl⟩:∃ b0 b1 b2 b3 b4 b5 b6 b7 b8 b9,pre=[b0,b1,b2,b3,b4,b5,b6,b7,b8,b9]:=w8i hlen1
     refine (v0l b0 b1 b2 b3 b4 b5 b6 b7 b8 b9 d0 J _ _ _ _ _ _ l id zo f u n _ T W1 _).mpr ⟨⟨⟨ms,ds,hO2⟩,by omega,by omega⟩,⟨rfl,rfl⟩,?_⟩
     rw[z1m]
     refine LR.mask' [0,2,3,5,6] (env':=[.fn (.yield l) [] [],X,.ptr 15 0,.ptr 13 0,X,I (z5y ds ⟨id,zo⟩ n).1,Bo (z5y ds ⟨id,zo⟩ n).2]++replicate 22 X) rfl (LR.wl ?_)
     exact hq
   ·refine ⟨some .ret,c1,E79 n (mV ms ds id zo) es,w7s ds ⟨id,zo⟩ n u,fun _=>rfl,fun h=>(by simp at h),hM2,.inr ⟨rfl,L,trn ds ⟨id,zo⟩ n,if (z5y ds ⟨id,zo⟩ n).2=true then w7s ds ⟨id,zo⟩ (z5y ds ⟨id,zo⟩ n).1 u else [],congrArg (L++·) g1,hF1⟩,fun l kk hkk=>⟨1,start l 0 _ ?_⟩⟩
    ·exact RW.cond (t:=true) rfl (RW.ret (hkk _ _ _ _ ⟨.inr rfl,rfl,rfl,rfl⟩))
  ·refine ⟨none,c,es,[],fun h=>?_,fun _=>rfl,hM,.inl ⟨rfl,by rw[List.append_nil];exact hP⟩,fun l kk hkk=>⟨1,LR.step ?_⟩⟩
   ·exact (w71 fun h2=>hgo ⟨h,h2⟩).symm
   obtain ⟨pre,d,J,T⟩:=c
   obtain ⟨b0,b1,b2,b3,b4,b5,b6,b7,b8,b9,rfl⟩:∃ b0 b1 b2 b3 b4 b5 b6 b7 b8 b9,pre=[b0,b1,b2,b3,b4,b5,b6,b7,b8,b9]:=w8i hlen
   rw[w8a]
   refine RW.seq (RW.of_wpN xlo xlok xlm xlc w79 ?_)
   refine (w8j b0 b1 b2 b3 b4 b5 b6 b7 b8 b9 d J _ _ _ _ _ _ l id zo f u n es T W ok _).mpr (z0i (fun h=>z02 (df fun h2=>hgo ⟨h,h2⟩) (hkk _ _ _ _ ⟨.inl rfl,rfl,rfl,rfl⟩)) (fun _=>(hkk _ _ _ _ ⟨.inl rfl,rfl,rfl,rfl⟩)))
theorem w9g {rd:RdG}{f u:Int}(hf:0≤f)(hu:u≤144001440){P:List Trn→Cs→Prop}{F:List Trn→Trn→Cs→Prop}(hs:Sink 10 rd (mV ms ds id zo) f u P F){es:List (AV×AV)}{W:List Nat}{c:Cs}(hJ:c.J=[])(hM:MapOk ds ⟨id,zo⟩ es)(hP:P [] c) :
  ∃ (j:Option Code) (c':Cs) (es':List (AV×AV)),MapOk ds ⟨id,zo⟩ es'∧((j=none∧P (w7s ds ⟨id,zo⟩ f u) c')∨(j=some .ret∧∃ L1 x L2,w7s ds ⟨id,zo⟩ f u=L1++x::L2∧F L1 x c')) ∧
   SeqG XL.cx 164 [] [.ptr 14 0,.ptr 15 0,.ptr 13 0] rd (stT 10 c (mV ms ds id zo) f u es W) j (stT 10 { c' with J:=[] } (mV ms ds id zo) f u es' []):=by
 obtain ⟨j,c',es',R,r1,-,r3,r4,r5⟩:=w9i hd hml hdl hz1 hz2 hf hu hs (u-f).toNat f true [] es [] c (fun _=>Nat.le_refl _) (fun _=>Int.le_refl _) hM hP
 obtain rfl:=r1 rfl
 have hlen:=hs.len _ c hP
 have hlen':c'.pre.length=10:=by
  rcases r4 with ⟨-,h⟩ | ⟨-,_,_,_,-,h⟩
  ·exact hs.len _ _ h
  ·exact hs.lenF _ _ _ h
 have hok:(c'.pre++[c'.d]).all (okBlk 16)=true:=by
  rcases r4 with ⟨-,h⟩ | ⟨-,_,_,_,-,h⟩
  ·exact hs.ok _ _ h
  ·exact hs.okF _ _ _ h
 refine ⟨j,c',es',r3,r4,SeqG.of_RW xlok Tryz.func164 (c:=cd PP 164 []) (by kernel_rfl) rfl fun l=>?_⟩
 have hl15:(stT 10 c (mV ms ds id zo) f u es W).hs.length=16:=by simp[stT,hlen,hJ]
 rw[hl15,v0h]
 have tk:(stT 10 c' (mV ms ds id zo) f u es' []).hs.take 16=(stT 10 { c' with J:=[] } (mV ms ds id zo) f u es' []).hs:=by
  simp only[stT,List.append_nil]
  rw[List.take_append_of_le_length (by simp[hlen']),List.take_of_length_le (by simp[hlen'])]
 have key:RW XL.cx 4096 (some l) (YG rd) (.block 0 (.loop (cd PP 164 [1,0,0]))) ([.fn (.yield l) [] [],X,.ptr 15 0,.ptr 13 0,X,I f,Bo true]++replicate 22 X) (stT 10 c (mV ms ds id zo) f u es []) ⟨none,0⟩ fun x e s z=>(x=.normal∨x=.ret)∧z=⟨j,0⟩∧(s.hs.take 16).all (okBlk 16)=true∧stT 10 { c' with J:=[] } (mV ms ds id zo) f u es' []=⟨s.hs.take 16,s.ts,[]⟩:=by
  suffices hk:∀ x e s z,kT j (stT 10 c' (mV ms ds id zo) f u es' []) x e s z→(y3h 0 fun x e s z=>(x=.normal∨x=.ret)∧z=⟨j,0⟩∧(s.hs.take 16).all (okBlk 16)=true∧stT 10 { c' with J:=[] } (mV ms ds id zo) f u es' []=⟨s.hs.take 16,s.ts,[]⟩) x e s z from by
   obtain ⟨q,hq⟩:=r5 l _ hk
   exact RW.block (RW.loop hq)
  rintro x e s z ⟨hx,rfl,h1,h2⟩
  have fin:(s.hs.take 16).all (okBlk 16)=true∧stT 10 { c' with J:=[] } (mV ms ds id zo) f u es' []=⟨s.hs.take 16,s.ts,[]⟩:=by
   rw[h1,tk,h2]
   refine ⟨?_,rfl⟩
   rw[List.all_append,Bool.and_eq_true]at hok
   obtain ⟨hok1,hok2⟩:=hok
   simp only[List.all_cons,List.all_nil,Bool.and_true]at hok2
   simp only[stT,List.append_nil]
   rw[List.all_append,hok1,List.all_cons,y5a r3,List.all_cons,List.all_cons,hok2]
   simp[okBlk,noHB,noHL,noH,eM.noHL',eD.noHL',eNum.noHL']
  rcases hx with rfl | rfl
  ·exact ⟨.inl rfl,rfl,fin⟩
  ·exact ⟨.inr rfl,rfl,fin⟩
 obtain ⟨pre,d,J,T⟩:=c
 obtain ⟨b0,b1,b2,b3,b4,b5,b6,b7,b8,b9,rfl⟩:∃ b0 b1 b2 b3 b4 b5 b6 b7 b8 b9,pre=[b0,b1,b2,b3,b4,b5,b6,b7,b8,b9]:=w8i hlen
 obtain rfl:J=[]:=hJ
 refine RW.seq (RW.of_wpN xlo xlok xlm xlc v0g ?_)
 refine (v0k b0 b1 b2 b3 b4 b5 b6 b7 b8 b9 d [] _ _ _ _ _ _ l id zo f u es T W _).mpr ?_
 show RW _ _ _ _ (.block 0 (.loop (cd PP 164 [1,0,0]))) _ _ _ _
 exact RW.mask' [0,2,3,5,6] rfl (RW.wl key)
end
end Go.Proofs
