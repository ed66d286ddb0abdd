/- Contracts of functions of the program and of the reference. -/
import Derived.Test.YtljjkomdibkjpaaGreatDoorK19
import Derived.Test.YtljjkomdibkjpaaGreatDoorK11
import Derived.Test.YtljjkomdibkjpaaGreatDoorE6
import Derived.Test.YtljjkomdibkjpaaGreatDoorK20
set_option linter.unusedVariables false
set_option linter.unusedSimpArgs false
set_option maxRecDepth 100000
set_option linter.unusedVariables false
-- elP C19
namespace Go.Proofs
open Go Go.Ev
mutual
def nzT:Tst→Nat
 | .mk _ _ _ _ of=>1 + nzL of
def nzL:List Tst→Nat
 | []=>0
 | t :: l=>nzT t + nzL l
end
def R129:Spc:=fun args=>match args with
 | [.agg l]=>some (∃ t,l = z0m t∧wfT t∧nzT t ≤ 1000,.ret (.agg l))
 | _=>none
def w3q:List (Nat × List Nat):=[(3,[1,2,3,7,8,9]),(7,[1,2,3])]
noncomputable def Tryz.X129 (m:Nat):WCx:=Tryz.B.wcx [(129,R129.below m)] w3q [] [] [(3,2)]
def R90:Spc:=fun args=>match args with
 | [.agg l]=>some (∃ x,l = z1d x∧wfR x∧nzT x.t ≤ 1000,.ret (.agg l))
 | _=>none
noncomputable def Tryz.X90:WCx:=Tryz.B.wcx [(129,R129)]
theorem v0m (m:Nat) (op attr side n:Int) (l:List AV) (len:Nat) (Q:CR→Prop):wpF (Tryz.X129 m) 129 [.agg [U op,U attr,U side,I n,.vs l len .none]] Q =
 (cIf (noHL 2 ([X,AV.ptr 0 0,AV.ptr 1 0,AV.vs [] 0 Tok.zero,X,X,X,AV.vs l len Tok.none,I len,I 0]++List.replicate 12 X)) (cIf ([some (HB.cells [U op,U attr,U side,I n,AV.vs l len Tok.none] 71),some (HB.cells zT 71)].all (okBlk 2)) (z0l (Tryz.X129 m) (cd (Tryz.X129 m).P 129 [1,1,0,1,0,0]) ([X,AV.ptr 0 0,AV.ptr 1 0,AV.vs [] 0 Tok.zero,X,X,X,AV.vs l len Tok.none,I len,I 0]++List.replicate 12 X) (St.mk [some (HB.cells [U op,U attr,U side,I n,AV.vs l len Tok.none] 71),some (HB.cells zT 71)] [] []) (z0d 0 (z0i (Tryz.X129 m) (cd (Tryz.X129 m).P 129 [1,1,1]) (z0f (Tryz.X129 m) 129 Q)))) False) False):=by kernel_rfl
theorem w8z (m:Nat) (op attr side n:Int) (l:List AV) (len:Nat) (i:Int) (Q:CR→Prop):wpC (Tryz.X129 m) (cd PP 129 [1,1,0,1,0,0]) ([X,.ptr 0 0,.ptr 1 0,.vs [] 0 .zero,X,X,X,.vs l len .none,I len,I i]++List.replicate 12 X) ⟨[some (.cells [U op,U attr,U side,I n,.vs l len .none] 71),some (.cells zT 71)],[],[]⟩ (z0r (Tryz.X129 m) (cd PP 129 [1,1,0,1,0,0]) (z0d 0 (z0i (Tryz.X129 m) (cd PP 129 [1,1,1]) (z0f (Tryz.X129 m) 129 Q)))) =
 (cIf (decide (i < (↑len:Int))) (cIf (decide ((0:Int) ≤ i)) (cIf (decide (i.toNat < len)) (cIf (decide (len * 5 = l.length)) (cIf (decide (5 ≤ (List.drop (i.toNat * 5) l).length)) (cIf (like zT (el (List.drop (i.toNat * 5) l) 0 5)) (((∃ (t:Tst),(elT (el (List.drop (i.toNat * 5) l) 0 5)) = z0m t∧wfT t∧nzT t ≤ 1000)∧z0o ([]++[AV.agg (elT (el (List.drop (i.toNat * 5) l) 0 5))]++[]) < m)∧cIf (noHL 2 ([X,AV.ptr 0 0,AV.ptr 1 0,AV.vs (elT (el (List.drop (i.toNat * 5) l) 0 5)) 1 (Tok.own 1),X,X,X,AV.vs l len Tok.none,I len,I (IntKind.i64.wrap (i + (1:Int)))]++List.replicate 12 X)) (cIf ([some (HB.cells [U op,U attr,U side,I n,AV.vs l len Tok.none] 71),some (HB.cells zT 71)].all (okBlk 2)) (z0l (Tryz.X129 m) (cd PP 129 [1,1,0,1,0,0]) ([X,AV.ptr 0 0,AV.ptr 1 0,AV.vs (elT (el (List.drop (i.toNat * 5) l) 0 5)) 1 (Tok.own 1),X,X,X,AV.vs l len Tok.none,I len,I (IntKind.i64.wrap (i + (1:Int)))]++List.replicate 12 X) (St.mk [some (HB.cells [U op,U attr,U side,I n,AV.vs l len Tok.none] 71),some (HB.cells zT 71)] [(1,5,71),(1,5,71)] []) (z0d 0 (z0i (Tryz.X129 m) (cd PP 129 [1,1,1]) (z0f (Tryz.X129 m) 129 Q)))) False) False) False) False) False) False) False) (Q (CR.ret (AV.agg [U op,U attr,U side,I n,AV.vs [] 0 Tok.zero])))):=by kernel_rfl
theorem w3b (m:Nat) (op attr side n:Int) (l:List AV) (len:Nat) (cs:List AV) (c k:Nat) (T:List (Nat × (Nat × Nat))) (i:Int) (Q:CR→Prop):wpC (Tryz.X129 m) (cd PP 129 [1,1,0,1,0,0]) ([X,.ptr 0 0,.ptr 1 0,.vs cs c (.own k),X,X,X,.vs l len .none,I len,I i]++List.replicate 12 X) ⟨[some (.cells [U op,U attr,U side,I n,.vs l len .none] 71),some (.cells zT 71)],T,[]⟩ (z0r (Tryz.X129 m) (cd PP 129 [1,1,0,1,0,0]) (z0d 0 (z0i (Tryz.X129 m) (cd PP 129 [1,1,1]) (z0f (Tryz.X129 m) 129 Q)))) =
 (cIf (decide (i < (↑len:Int))) (cIf (decide ((0:Int) ≤ i)) (cIf (decide (i.toNat < len)) (cIf (decide (len * 5 = l.length)) (cIf (decide (5 ≤ (List.drop (i.toNat * 5) l).length)) (cIf (like zT (el (List.drop (i.toNat * 5) l) 0 5)) (((∃ (t:Tst),(elT (el (List.drop (i.toNat * 5) l) 0 5)) = z0m t∧wfT t∧nzT t ≤ 1000)∧z0o ([]++[AV.agg (elT (el (List.drop (i.toNat * 5) l) 0 5))]++[]) < m)∧cIf (decide ((c + 1) * 40 ≤ 140737488355328)) (cIf (decide (c + 1 ≤ 140737488355328)) (cIf (decide (cs.length = c * 5)) (cIf (decide ((T++[(1,5,71)])[k]? = some (c,5,71))) (cIf (noHL 2 ([X,AV.ptr 0 0,AV.ptr 1 0,AV.vs (cs++(elT (el (List.drop (i.toNat * 5) l) 0 5))) (c + 1) (Tok.own k),X,X,X,AV.vs l len Tok.none,I len,I (IntKind.i64.wrap (i + (1:Int)))]++List.replicate 12 X)) (cIf ([some (HB.cells [U op,U attr,U side,I n,AV.vs l len Tok.none] 71),some (HB.cells zT 71)].all (okBlk 2)) (z0l (Tryz.X129 m) (cd PP 129 [1,1,0,1,0,0]) ([X,AV.ptr 0 0,AV.ptr 1 0,AV.vs (cs++(elT (el (List.drop (i.toNat * 5) l) 0 5))) (c + 1) (Tok.own k),X,X,X,AV.vs l len Tok.none,I len,I (IntKind.i64.wrap (i + (1:Int)))]++List.replicate 12 X) (St.mk [some (HB.cells [U op,U attr,U side,I n,AV.vs l len Tok.none] 71),some (HB.cells zT 71)] ((T++[(1,5,71)]).set k (c + 1,5,71)) []) (z0d 0 (z0i (Tryz.X129 m) (cd PP 129 [1,1,1]) (z0f (Tryz.X129 m) 129 Q)))) False) False) False) False) False) False) False) False) False) False) False) (z0f (Tryz.X129 m) 129 Q EX.ret [X,AV.ptr 0 0,AV.ptr 1 0,AV.vs cs c (Tok.own k),X,X,X,X,X,X,X,X,X,X,X,X,X,X,X,AV.vs cs c (Tok.own k),AV.ptr 0 4,AV.agg [U op,U attr,U side,I n,AV.vs cs c (Tok.own k)]] (St.mk [some (HB.cells [U op,U attr,U side,I n,AV.vs cs c (Tok.own k)] 71),some (HB.cells [U op,U attr,U side,I n,AV.vs cs c (Tok.own k)] 71)] T [1,0]))):=by kernel_rfl
theorem v90 (nm:List UInt8) (rank wt op attr side n:Int) (l:List AV) (len:Nat) (Q:CR→Prop):wpF Tryz.X90 90 [.agg [.str nm,I rank,I wt,U op,U attr,U side,I n,.vs l len .none]] Q =
 ((∃ (t:Tst),[U op,U attr,U side,I n,AV.vs l len Tok.none] = z0m t∧wfT t∧nzT t ≤ 1000)∧z0f Tryz.X90 90 Q EX.ret [AV.agg [AV.str nm,I rank,I wt,U op,U attr,U side,I n,AV.vs l len Tok.none],AV.ptr 0 0,AV.ptr 1 0,AV.ptr 0 3,AV.agg [U op,U attr,U side,I n,AV.vs l len Tok.none],AV.agg [U op,U attr,U side,I n,AV.vs l len Tok.none],AV.ptr 0 3,AV.agg [AV.str nm,I rank,I wt,U op,U attr,U side,I n,AV.vs l len Tok.none]] (St.mk [some (HB.cells [AV.str nm,I rank,I wt,U op,U attr,U side,I n,AV.vs l len Tok.none] 73),some (HB.cells [AV.str nm,I rank,I wt,U op,U attr,U side,I n,AV.vs l len Tok.none] 73)] [] [1,0])):=by kernel_rfl
end Go.Proofs
set_option maxRecDepth 100000
set_option linter.unusedVariables false
namespace Go.Proofs
open Go Go.Ev
theorem w04 (op attr side n:Int) (of:List Tst):nzT (.mk op attr side n of) = 1 + nzL of:=by rw [nzT]
theorem w47 (t:Tst):1 ≤ nzT t:=by cases t; rw [w04]; omega
theorem x3d:∀ l:List Tst,l.length ≤ nzL l
 | []=>by simp [nzL]
 | t :: l=>by
  have:=x3d l
  have:=w47 t
  simp only [nzL,List.length_cons]; omega
theorem x3c:∀ {l:List Tst} {x:Tst},x ∈ l→nzT x ≤ nzL l
 | t :: l,x,h=>by
  simp only [nzL]
  rcases List.mem_cons.1 h with rfl | h
  ·omega
  ·have:=x3c h; omega
mutual
theorem w03:∀ (t:Tst) (m:Int),0 ≤ m→z5i t m ≤ m→(nzT t:Int) = z5i t m
 | .mk _ _ _ _ of,m,hm,h=>by
  simp only [z5i] at h ⊢
  rw [nzT,x8o of m 1 (by omega) hm h]
  omega
theorem x8o:∀ (l:List Tst) (m n:Int),1 ≤ n→0 ≤ m→z7x l m n ≤ m→z7x l m n = n + nzL l
 | [],m,n,h1,hm,h=>by simp only [z7x,nzL]; omega
 | t :: l,m,n,h1,hm,h=>by
  simp only [z7x] at h ⊢
  by_cases hn:n ≤ m
  ·rw [if_pos hn] at h ⊢
   have b1:=y5g t (m - n) (by omega)
   have b2:=(y8j l m (n + z5i t (m - n)) (by omega) (by omega) hm).1
   have e1:=w03 t (m - n) (by omega) (by omega)
   rw [x8o l m _ (by omega) hm h,nzL,← e1]
   omega
  ·rw [if_neg hn] at h
   omega
end
theorem w2d {t:Tst} (h:z4h t = true):nzT t ≤ 24:=by
 unfold z4h szR at h
 by_cases h1:z5i t 24 > 24
 ·rw [if_pos h1] at h; simp at h
 ·have:=w03 t 24 (by omega) (by omega)
  omega
mutual
theorem w2g:∀ t:Tst,z7u (z0m t) = z0m t
 | .mk op attr side n of=>by simp [z0m,z7u,zap,y6r of]
theorem y6r:∀ l:List Tst,z7u (z0q l) = z0q l
 | []=>rfl
 | t :: l=>by rw [z0q,x05,w2g t,y6r l]
end
theorem x4j:∀ l m:List Tst,z0q (l++m) = z0q l++z0q m
 | [],m=>rfl
 | t :: l,m=>by simp only [List.cons_append,z0q,x4j l m,List.append_assoc]
theorem x9u {l:List Tst} {k:Nat} {x:Tst} (h:l[k]? = some x):z0q (l.take k)++z0m x = z0q (l.take (k + 1)):=by
 rw [List.take_add_one,h,x4j]
 simp [z0q]
section
variable {m:Nat} (hc:Cts Tryz.B [(129,R129.below m)]) {op attr side n:Int} {of:List Tst} (hwf:z6p of) (hnz:nzL of ≤ 1000) (hsz:z0o (z0q of) + 1 < m)
include hc hwf hnz hsz
theorem w2i (cs:List AV) (c:Nat) (tk:Tok) (i:Int) (hcs:noHL 2 cs = true):noHL 2 ([X,AV.ptr 0 0,AV.ptr 1 0,AV.vs cs c tk,X,X,X,AV.vs (z0q of) of.length Tok.none,I (of.length:Int),I i]++List.replicate 12 X) = true:=by
 have _:=hc; have _:=hwf; have _:=hnz; have _:=hsz
 refine z6j ?_ (z2e 2 12)
 simp [noHL,noH,hcs,z19]
theorem w2n:[some (HB.cells [U op,U attr,U side,I n,AV.vs (z0q of) of.length Tok.none] 71),some (HB.cells zT 71)].all (okBlk 2) = true:=by
 have _:=hc; have _:=hwf; have _:=hnz; have _:=hsz
 simp [okBlk,noHB,noHL,noH,z19,zT]
theorem w9g:∀ (d i:Nat) (k:Nat) (T:List (Nat × (Nat × Nat))),of.length - i = d→i ≤ of.length→T[k]? = some (i,5,71) →
  z0l (Tryz.X129 m) (cd PP 129 [1,1,0,1,0,0]) ([X,.ptr 0 0,.ptr 1 0,.vs (z0q (of.take i)) i (.own k),X,X,X,.vs (z0q of) of.length .none,I of.length,I i]++List.replicate 12 X) ⟨[some (.cells [U op,U attr,U side,I n,.vs (z0q of) of.length .none] 71),some (.cells zT 71)],T,[]⟩ (z0d 0 (z0i (Tryz.X129 m) (cd PP 129 [1,1,1]) (z0f (Tryz.X129 m) 129 fun r'=>y71 r' = .ret (.agg [U op,U attr,U side,I n,.vs (z0q of) of.length .none])))):=by
 have hn:=x3d of
 intro d
 induction d with
 | zero =>
  intro i k T hd hi hT
  have hi':i = of.length:=by omega
  subst hi'
  rw [List.take_length]
  refine z0n (C:=Tryz.X129 m) (z0y Tryz.bok hc) (z1e Tryz.bok hc) ?_
  rw [w3b]
  refine z0p (decide_eq_false (by omega)) ?_
  show z3b (pub (Tryz.X129 m).pc [some (HB.cells [U op,U attr,U side,I n,AV.vs (z0q of) of.length (Tok.own k)] 71),some (HB.cells [U op,U attr,U side,I n,AV.vs (z0q of) of.length (Tok.own k)] 71)] 0 (.agg [U op,U attr,U side,I n,AV.vs (z0q of) of.length (Tok.own k)])) fun r'=>y71 (CR.ret (scrub 0 r')) = _
  refine y05 (v:=.agg [U op,U attr,U side,I n,AV.vs (z0q of) of.length (Tok.own k)]) (by simp [pub,z8q,noH,z19]) ?_
  show CR.ret (AV.agg [U op,U attr,U side,I n,AV.vs (z7u (z0e 0 (z0q of))) of.length .none]) = _
  rw [z7v,y6r]
 | succ d ih =>
  intro i k T hd hi hT
  have hlt:i < of.length:=by omega
  obtain ⟨x,hx⟩:∃ x,of[i]? = some x:=⟨_,List.getElem?_eq_getElem hlt⟩
  have hxm:=List.mem_of_getElem? hx
  have hs:=z5y hx
  have hz:=x3c hxm
  obtain ⟨t1,t2⟩:=y80 (1,5,71) (i + 1,5,71) hT
  refine z0n (C:=Tryz.X129 m) (z0y Tryz.bok hc) (z1e Tryz.bok hc) ?_
  rw [w3b,Int.toNat_natCast,z6x hx,z6m,wA1 (a:=i) (by omega),x9u hx]
  refine z0b (decide_eq_true (by omega)) (z0b (z0z _) (z0b (decide_eq_true hlt) (z0b (decide_eq_true (z1n of).symm) (z0b (decide_eq_true (z03 (z1n of) hlt)) (z0b (z2w x) ⟨⟨⟨x,rfl,x27 hwf hxm,by omega⟩,?_⟩,?_⟩)))))
  ·show z0o [AV.agg (z0m x)] < m
   simp only [z0o,z2q]
   omega
  ·refine z0b (decide_eq_true (by omega)) (z0b (decide_eq_true (by omega)) (z0b (decide_eq_true (by rw [z1n,List.length_take]; omega)) (z0b (decide_eq_true t1) (z0b (w2i hc hwf hnz hsz _ _ _ _ (z19 _ _)) (z0b (w2n hc hwf hnz hsz) ?_)))))
   exact ih (i + 1) k _ (by omega) (by omega) t2
theorem w9f:z0l (Tryz.X129 m) (cd PP 129 [1,1,0,1,0,0]) ([X,.ptr 0 0,.ptr 1 0,.vs [] 0 .zero,X,X,X,.vs (z0q of) of.length .none,I of.length,I 0]++List.replicate 12 X) ⟨[some (.cells [U op,U attr,U side,I n,.vs (z0q of) of.length .none] 71),some (.cells zT 71)],[],[]⟩ (z0d 0 (z0i (Tryz.X129 m) (cd PP 129 [1,1,1]) (z0f (Tryz.X129 m) 129 fun r'=>y71 r' = .ret (.agg [U op,U attr,U side,I n,.vs (z0q of) of.length .none])))):=by
 have hn:=x3d of
 refine z0n (C:=Tryz.X129 m) (z0y Tryz.bok hc) (z1e Tryz.bok hc) ?_
 rw [w8z]
 cases hof:of with
 | nil =>
  refine z0p (decide_eq_false (by simp)) ?_
  rfl
 | cons x l =>
  have hx:of[0]? = some x:=by rw [hof]; rfl
  rw [← hof]
  have hlt:0 < of.length:=by rw [hof]; simp
  have hxm:=List.mem_of_getElem? hx
  have hs:=z5y hx
  have hz:=x3c hxm
  rw [show Int.toNat 0 = 0 from rfl,z6x hx,z6m,show IntKind.i64.wrap ((0:Int) + 1) = ((1:Nat):Int) from wA1 (a:=0) (by omega)]
  refine z0b (decide_eq_true (by omega)) (z0b (decide_eq_true (by omega)) (z0b (decide_eq_true hlt) (z0b (decide_eq_true (z1n of).symm) (z0b (decide_eq_true (z03 (z1n of) hlt)) (z0b (z2w x) ⟨⟨⟨x,rfl,x27 hwf hxm,by omega⟩,?_⟩,?_⟩)))))
  ·show z0o [AV.agg (z0m x)] < m
   simp only [z0o,z2q]
   omega
  ·refine z0b (w2i hc hwf hnz hsz _ _ _ _ (z1k _ _)) (z0b (w2n hc hwf hnz hsz) ?_)
   have:=w9g hc (op:=op) (attr:=attr) (side:=side) (n:=n) hwf hnz hsz (of.length - 1) 1 1 [(1,5,71),(1,5,71)] rfl (by omega) rfl
   rw [show z0q (of.take 1) = z0m x by rw [hof]; simp [z0q]] at this
   exact this
end
theorem w9j:Ct Tryz.B.c0 129 R129:=Ct.of_recZ (l:=[]) (lm:=w3q) (tp:=[]) (ct:=[]) (sm:=[(3,2)]) Tryz.bok (Cts.nil _) ⟨_,_,Tryz.func129,rfl⟩ fun m args D r hc hR hD hm=>by
 unfold R129 at hR
 split at hR <;> cases hR
 obtain ⟨⟨op,attr,side,n,of⟩,rfl,hw,hnz⟩:=hD
 simp only [wfT] at hw
 rw [w04] at hnz
 refine ⟨by simp [noHL,noH,z1k],?_⟩
 rw [show z0e 0 [AV.agg (z0m (.mk op attr side n of))] = [AV.agg (z0m (.mk op attr side n of))] by simp [z0e,scrub,z3q]]
 have hsz:z0o (z0q of) + 1 < m:=by simp only [z0o,z2q,z0m] at hm; omega
 rw [show z0m (.mk op attr side n of) = [U op,U attr,U side,I n,.vs (z0q of) of.length .none] from by rw [z0m]]
 show wpF (Tryz.X129 m) 129 _ _
 rw [v0m]
 have hwf:=hw.2.2.2.2.2.2.2.2.2
 exact z0b (w2i hc hwf (by omega) hsz _ _ _ _ rfl) (z0b (w2n hc hwf (by omega) hsz) (w9f hc hwf (by omega) hsz))
theorem c90:Cts Tryz.B [(129,R129)]:=(Cts.nil _).cons w9j
theorem v1g:Ct Tryz.B.c0 90 R90:=Ct.of_wp (l:=[(129,R129)]) (lm:=[]) (tp:=[]) (ct:=[]) (sm:=[]) Tryz.bok c90 ⟨_,_,Tryz.func90,rfl⟩ fun args D r hR hD=>by
 unfold R90 at hR
 split at hR <;> cases hR
 obtain ⟨⟨nm,rank,wt,⟨op,attr,side,n,of⟩⟩,rfl,hw,hnz⟩:=hD
 refine ⟨by simp [noHL,noH,z7c],?_⟩
 rw [show ∀ x:Rul,z0e 0 [AV.agg (z1d x)] = [AV.agg (z1d x)] from fun x=>by simp [z0e,scrub,y8i]]
 show wpF Tryz.X90 90 [.agg [.str nm,I rank,I wt,U op,U attr,U side,I n,.vs (z0q of) of.length .none]] _
 rw [v90]
 refine ⟨⟨.mk op attr side n of,by rw [z0m],hw.1,hnz⟩,?_⟩
 show z3b (pub Tryz.X90.pc [some (HB.cells [AV.str nm,I rank,I wt,U op,U attr,U side,I n,AV.vs (z0q of) of.length Tok.none] 73),some (HB.cells [AV.str nm,I rank,I wt,U op,U attr,U side,I n,AV.vs (z0q of) of.length Tok.none] 73)] 0 (.agg [AV.str nm,I rank,I wt,U op,U attr,U side,I n,AV.vs (z0q of) of.length Tok.none])) fun r'=>CR.ret (scrub 0 r') = _
 refine y05 (v:=.agg [AV.str nm,I rank,I wt,U op,U attr,U side,I n,AV.vs (z0q of) of.length Tok.none]) (by simp [pub,z8q,noH,z19]) ?_
 show CR.ret (AV.agg [AV.str nm,I rank,I wt,U op,U attr,U side,I n,AV.vs (z0e 0 (z0q of)) of.length .none]) = _
 rw [z7v]
 rfl
end Go.Proofs
set_option maxRecDepth 100000
set_option linter.unusedVariables false
-- elP C19
namespace Go.Proofs
open Go Go.Ev
def z3j (rs:List Rul) (o:List Bool) (L:List Nat):List Rul:=L.filterMap fun i=>if o.getD i false = true then rs[i]? else none
def z9x (rs:List Rul):List Rul:=z3j rs (z2l rs) (List.range rs.length)
noncomputable def z5q (rs:List Rul):List Rul × Int:=if chk rs = 0 then (z9x rs,0) else ([],chk rs)
noncomputable def R49:Spc:=fun args=>match args with
 | [.agg [.vs l len .none]]=>some (∃ rs,l = z0c rs∧len = rs.length∧z1h rs,.ret (.tup [.agg [.vs (z0c (z0g z0c z5q ([],0) l).1) (z0g z0c z5q ([],0) l).1.length .none],I (z0g z0c z5q ([],0) l).2]))
 | _=>none
def w7o:List (Nat × List Nat):=[(6,[1,2,5,15,16,17]),(11,[2,5])]
noncomputable def Tryz.X49:WCx:=Tryz.B.wcx [(27,R27),(89,R89),(90,R90)] w7o [] [] [(6,3)]
theorem v49 (l:List AV) (len:Nat) (Q:CR→Prop):wpF Tryz.X49 49 [.agg [.vs l len .none]] Q =
 ((∃ (rs:List Rul),l = z0c rs∧len = rs.length∧z1h rs)∧cIf (z0g z0c chk (0:Int) l != (0:Int)) (Q (CR.ret (AV.tup [AV.agg [AV.vs [] 0 Tok.zero],I (z0g z0c chk (0:Int) l)]))) (y4h l len∧cIf (noHL 3 ([X,AV.ptr 0 0,AV.ptr 1 0,X,X,AV.ptr 2 0,X,X,X,X,X,X,X,X,X,AV.vs (z07 (z0g z0c z2l [] l)) len Tok.none,I len,I 0]++List.replicate 18 X)) (cIf ([some (HB.cells [AV.vs l len Tok.none] 25),some (HB.cells [AV.vs [] 0 Tok.zero] 25),some (HB.cells [AV.vs [] 0 Tok.zero] 25)].all (okBlk 3)) (z0l Tryz.X49 (cd Tryz.X49.P 49 [1,1,1,0,1,0,0]) ([X,AV.ptr 0 0,AV.ptr 1 0,X,X,AV.ptr 2 0,X,X,X,X,X,X,X,X,X,AV.vs (z07 (z0g z0c z2l [] l)) len Tok.none,I len,I 0]++List.replicate 18 X) (St.mk [some (HB.cells [AV.vs l len Tok.none] 25),some (HB.cells [AV.vs [] 0 Tok.zero] 25),some (HB.cells [AV.vs [] 0 Tok.zero] 25)] [] []) (z0d 0 (z0i Tryz.X49 (cd Tryz.X49.P 49 [1,1,1,1]) (z0f Tryz.X49 49 Q)))) False) False)):=by kernel_rfl
theorem w6e (l al:List AV) (len n:Nat) (i:Int) (Q:CR→Prop):wpC Tryz.X49 (cd PP 49 [1,1,1,0,1,0,0]) ([X,.ptr 0 0,.ptr 1 0,X,X,.ptr 2 0,X,X,X,X,X,X,X,X,X,.vs al n .none,I n,I i]++List.replicate 18 X) ⟨[some (.cells [.vs l len .none] 25),some (.cells [.vs [] 0 .zero] 25),some (.cells [.vs [] 0 .zero] 25)],[],[]⟩ (z0r Tryz.X49 (cd PP 49 [1,1,1,0,1,0,0]) (z0d 0 (z0i Tryz.X49 (cd PP 49 [1,1,1,1]) (z0f Tryz.X49 49 Q)))) =
 (cIf (decide (i < (↑n:Int))) (cIf (decide ((0:Int) ≤ i)) (cIf (decide (i.toNat < n)) (cIf (decide (n * 1 = al.length)) (cIf (decide (0 < (List.drop (i.toNat * 1) al).length)) (cIf (z1g (AV.ofVal (Value.bool false)) ((List.drop (i.toNat * 1) al).getD 0 X)) (cIf (cB (List.drop (i.toNat * 1) al) 0) (cIf (decide ((0:Int) ≤ i)) (cIf (decide (i.toNat < len)) (cIf (decide (len * 8 = l.length)) (cIf (decide (8 ≤ (List.drop (i.toNat * 8) l).length)) (cIf (like zR (el (List.drop (i.toNat * 8) l) 0 8)) (cIf (noHL [some (HB.cells [AV.vs l len Tok.none] 25),some (HB.cells [AV.vs [] 0 Tok.zero] 25),some (HB.cells [AV.vs [] 0 Tok.zero] 25)].length ([]++[AV.agg (elR (el (List.drop (i.toNat * 8) l) 0 8))]++[])) ((∃ (x:Rul),(elR (el (List.drop (i.toNat * 8) l) 0 8)) = z1d x∧wfR x∧nzT x.t ≤ 1000)∧St.mk [some (HB.cells [AV.vs l len Tok.none] 25),some (HB.cells [AV.vs [] 0 Tok.zero] 25),some (HB.cells [AV.vs [] 0 Tok.zero] 25)] [] [] = St.mk [some (HB.cells [AV.vs l len Tok.none] 25),some (HB.cells [AV.vs [] 0 Tok.zero] 25),some (HB.cells [AV.vs [] 0 Tok.zero] 25)] [] []∧cIf (noHL 3 ([X,AV.ptr 0 0,AV.ptr 1 0,X,X,AV.ptr 2 0,X,X,X,X,X,X,X,X,X,AV.vs al n Tok.none,I n,I (IntKind.i64.wrap (i + (1:Int)))]++List.replicate 18 X)) (cIf ([some (HB.cells [AV.vs l len Tok.none] 25),some (HB.cells [AV.vs [] 0 Tok.zero] 25),some (HB.cells [AV.vs (elR (el (List.drop (i.toNat * 8) l) 0 8)) 1 (Tok.own 0)] 25)].all (okBlk 3)) (z0l Tryz.X49 (cd PP 49 [1,1,1,0,1,0,0]) ([X,AV.ptr 0 0,AV.ptr 1 0,X,X,AV.ptr 2 0,X,X,X,X,X,X,X,X,X,AV.vs al n Tok.none,I n,I (IntKind.i64.wrap (i + (1:Int)))]++List.replicate 18 X) (St.mk [some (HB.cells [AV.vs l len Tok.none] 25),some (HB.cells [AV.vs [] 0 Tok.zero] 25),some (HB.cells [AV.vs (elR (el (List.drop (i.toNat * 8) l) 0 8)) 1 (Tok.own 0)] 25)] [(1,8,73)] []) (z0d 0 (z0i Tryz.X49 (cd PP 49 [1,1,1,1]) (z0f Tryz.X49 49 Q)))) False) False) False) False) False) False) False) False) (cIf (noHL 3 ([X,AV.ptr 0 0,AV.ptr 1 0,X,X,AV.ptr 2 0,X,X,X,X,X,X,X,X,X,AV.vs al n Tok.none,I n,I (IntKind.i64.wrap (i + (1:Int)))]++List.replicate 18 X)) (cIf ([some (HB.cells [AV.vs l len Tok.none] 25),some (HB.cells [AV.vs [] 0 Tok.zero] 25),some (HB.cells [AV.vs [] 0 Tok.zero] 25)].all (okBlk 3)) (z0l Tryz.X49 (cd PP 49 [1,1,1,0,1,0,0]) ([X,AV.ptr 0 0,AV.ptr 1 0,X,X,AV.ptr 2 0,X,X,X,X,X,X,X,X,X,AV.vs al n Tok.none,I n,I (IntKind.i64.wrap (i + (1:Int)))]++List.replicate 18 X) (St.mk [some (HB.cells [AV.vs l len Tok.none] 25),some (HB.cells [AV.vs [] 0 Tok.zero] 25),some (HB.cells [AV.vs [] 0 Tok.zero] 25)] [] []) (z0d 0 (z0i Tryz.X49 (cd PP 49 [1,1,1,1]) (z0f Tryz.X49 49 Q)))) False) False)) False) False) False) False) False) (Q (CR.ret (AV.tup [AV.agg [AV.vs [] 0 Tok.zero],I 0])))):=by kernel_rfl
theorem w6f (l al:List AV) (len n:Nat) (i:Int) (cs:List AV) (c k:Nat) (T:List (Nat × (Nat × Nat))) (Q:CR→Prop):wpC Tryz.X49 (cd PP 49 [1,1,1,0,1,0,0]) ([X,.ptr 0 0,.ptr 1 0,X,X,.ptr 2 0,X,X,X,X,X,X,X,X,X,.vs al n .none,I n,I i]++List.replicate 18 X) ⟨[some (.cells [.vs l len .none] 25),some (.cells [.vs [] 0 .zero] 25),some (.cells [.vs cs c (.own k)] 25)],T,[]⟩ (z0r Tryz.X49 (cd PP 49 [1,1,1,0,1,0,0]) (z0d 0 (z0i Tryz.X49 (cd PP 49 [1,1,1,1]) (z0f Tryz.X49 49 Q)))) =
 (cIf (decide (i < (↑n:Int))) (cIf (decide ((0:Int) ≤ i)) (cIf (decide (i.toNat < n)) (cIf (decide (n * 1 = al.length)) (cIf (decide (0 < (List.drop (i.toNat * 1) al).length)) (cIf (z1g (AV.ofVal (Value.bool false)) ((List.drop (i.toNat * 1) al).getD 0 X)) (cIf (cB (List.drop (i.toNat * 1) al) 0) (cIf (decide ((0:Int) ≤ i)) (cIf (decide (i.toNat < len)) (cIf (decide (len * 8 = l.length)) (cIf (decide (8 ≤ (List.drop (i.toNat * 8) l).length)) (cIf (like zR (el (List.drop (i.toNat * 8) l) 0 8)) (cIf (noHL [some (HB.cells [AV.vs l len Tok.none] 25),some (HB.cells [AV.vs [] 0 Tok.zero] 25),some (HB.cells [AV.vs cs c (Tok.own k)] 25)].length ([]++[AV.agg (elR (el (List.drop (i.toNat * 8) l) 0 8))]++[])) ((∃ (x:Rul),(elR (el (List.drop (i.toNat * 8) l) 0 8)) = z1d x∧wfR x∧nzT x.t ≤ 1000)∧St.mk [some (HB.cells [AV.vs l len Tok.none] 25),some (HB.cells [AV.vs [] 0 Tok.zero] 25),some (HB.cells [AV.vs cs c (Tok.own k)] 25)] T [] = St.mk [some (HB.cells [AV.vs l len Tok.none] 25),some (HB.cells [AV.vs [] 0 Tok.zero] 25),some (HB.cells [AV.vs cs c (Tok.own k)] 25)] T []∧cIf (decide ((c + 1) * 72 ≤ 140737488355328)) (cIf (decide (c + 1 ≤ 140737488355328)) (cIf (decide (cs.length = c * 8)) (cIf (decide (T[k]? = some (c,8,73))) (cIf (noHL 3 ([X,AV.ptr 0 0,AV.ptr 1 0,X,X,AV.ptr 2 0,X,X,X,X,X,X,X,X,X,AV.vs al n Tok.none,I n,I (IntKind.i64.wrap (i + (1:Int)))]++List.replicate 18 X)) (cIf ([some (HB.cells [AV.vs l len Tok.none] 25),some (HB.cells [AV.vs [] 0 Tok.zero] 25),some (HB.cells [AV.vs (cs++(elR (el (List.drop (i.toNat * 8) l) 0 8))) (c + 1) (Tok.own k)] 25)].all (okBlk 3)) (z0l Tryz.X49 (cd PP 49 [1,1,1,0,1,0,0]) ([X,AV.ptr 0 0,AV.ptr 1 0,X,X,AV.ptr 2 0,X,X,X,X,X,X,X,X,X,AV.vs al n Tok.none,I n,I (IntKind.i64.wrap (i + (1:Int)))]++List.replicate 18 X) (St.mk [some (HB.cells [AV.vs l len Tok.none] 25),some (HB.cells [AV.vs [] 0 Tok.zero] 25),some (HB.cells [AV.vs (cs++(elR (el (List.drop (i.toNat * 8) l) 0 8))) (c + 1) (Tok.own k)] 25)] (T.set k (c + 1,8,73)) []) (z0d 0 (z0i Tryz.X49 (cd PP 49 [1,1,1,1]) (z0f Tryz.X49 49 Q)))) False) False) False) False) False) False) False) False) False) False) False) False) (cIf (noHL 3 ([X,AV.ptr 0 0,AV.ptr 1 0,X,X,AV.ptr 2 0,X,X,X,X,X,X,X,X,X,AV.vs al n Tok.none,I n,I (IntKind.i64.wrap (i + (1:Int)))]++List.replicate 18 X)) (cIf ([some (HB.cells [AV.vs l len Tok.none] 25),some (HB.cells [AV.vs [] 0 Tok.zero] 25),some (HB.cells [AV.vs cs c (Tok.own k)] 25)].all (okBlk 3)) (z0l Tryz.X49 (cd PP 49 [1,1,1,0,1,0,0]) ([X,AV.ptr 0 0,AV.ptr 1 0,X,X,AV.ptr 2 0,X,X,X,X,X,X,X,X,X,AV.vs al n Tok.none,I n,I (IntKind.i64.wrap (i + (1:Int)))]++List.replicate 18 X) (St.mk [some (HB.cells [AV.vs l len Tok.none] 25),some (HB.cells [AV.vs [] 0 Tok.zero] 25),some (HB.cells [AV.vs cs c (Tok.own k)] 25)] T []) (z0d 0 (z0i Tryz.X49 (cd PP 49 [1,1,1,1]) (z0f Tryz.X49 49 Q)))) False) False)) False) False) False) False) False) (z0f Tryz.X49 49 Q EX.ret [X,X,AV.ptr 1 0,I 0,X,AV.ptr 2 0,X,X,X,X,X,X,X,X,X,X,X,X,X,X,X,X,X,X,X,X,X,X,X,X,X,X,X,X,X,AV.agg [AV.vs cs c (Tok.own k)]] (St.mk [some (HB.cells [AV.vs l len Tok.none] 25),some (HB.cells [AV.vs cs c (Tok.own k)] 25),some (HB.cells [AV.vs cs c (Tok.own k)] 25)] T [1]))):=by kernel_rfl
end Go.Proofs
set_option maxRecDepth 100000
set_option linter.unusedVariables false
namespace Go.Proofs
open Go Go.Ev
theorem w2h (x:Rul):z7u (z1d x) = z1d x:=by simp [z1d,z7u,zap,y6r]
theorem x4k:∀ l:List Rul,z7u (z0c l) = z0c l
 | []=>rfl
 | x :: l=>by rw [z0c,x05,w2h x,x4k l]
theorem x4l:∀ l m:List Rul,z0c (l++m) = z0c l++z0c m
 | [],m=>rfl
 | x :: l,m=>by simp only [List.cons_append,z0c,x4l l m,List.append_assoc]
theorem x46 (l:List Rul) (x:Rul):z0c l++z1d x = z0c (l++[x]):=by rw [x4l]; simp [z0c]
theorem x1b (x:Rul):elR (z1d x) = z1d x:=rfl
theorem y6j {rs:List Rul} {o:List Bool} {i:Nat} {x:Rul} (L:List Nat) (ho:o.getD i false = true) (hx:rs[i]? = some x):z3j rs o (i :: L) = x :: z3j rs o L:=by
 simp only [z3j,List.filterMap_cons,ho,if_true,hx]
theorem y6k {rs:List Rul} {o:List Bool} {i:Nat} (L:List Nat) (ho:o.getD i false = false):z3j rs o (i :: L) = z3j rs o L:=by
 simp only [z3j,List.filterMap_cons,ho,Bool.false_eq_true,if_false]
theorem w9i {Q:CR→Prop} {rs:List Rul} {acc:List Rul} {k:Nat} {T:List (Nat × (Nat × Nat))} (hQ:Q (.ret (.tup [.agg [.vs (z0c acc) acc.length .none],I 0]))):z3b (pub Tryz.X49.pc [some (HB.cells [AV.vs (z0c rs) rs.length Tok.none] 25),some (HB.cells [AV.vs (z0c acc) acc.length (Tok.own k)] 25),some (HB.cells [AV.vs (z0c acc) acc.length (Tok.own k)] 25)] 0 (.tup [.agg [.vs (z0c acc) acc.length (Tok.own k)],I 0])) fun r'=>Q (CR.ret (scrub 0 r')):=by
 refine y05 (v:=.tup [.agg [.vs (z0c acc) acc.length (Tok.own k)],I 0]) (by simp [pub,z8q,noHL,noH,z0t]) ?_
 show Q (.ret (.tup [.agg [.vs (z0e 0 (z0c acc)) acc.length .none],I 0]))
 rw [z1f]
 exact hQ
theorem c49:Cts Tryz.B [(27,R27),(89,R89),(90,R90)]:=(((Cts.nil _).cons v1g).cons w72).cons (x90 x9y)
theorem e49 (o:List Bool) (n:Nat) (i:Int):noHL 3 ([X,AV.ptr 0 0,AV.ptr 1 0,X,X,AV.ptr 2 0,X,X,X,X,X,X,X,X,X,AV.vs (z07 o) n Tok.none,I (n:Int),I i]++List.replicate 18 X) = true:=by
 refine z6j ?_ (z2e 3 18)
 simp [noHL,noH,z5c]
theorem b49 (rs acc:List Rul) (t:Tok):[some (HB.cells [AV.vs (z0c rs) rs.length Tok.none] 25),some (HB.cells [AV.vs [] 0 Tok.zero] 25),some (HB.cells [AV.vs (z0c acc) acc.length t] 25)].all (okBlk 3) = true:=by
 simp [okBlk,noHB,noHL,noH,z0t]
theorem a49 (n:Nat) (x:Rul):noHL n ([]++[AV.agg (z1d x)]++[]) = true:=by simp [noHL,noH,z7c]
section
variable {rs:List Rul} (hrs:z1j rs) (hnz:∀ x ∈ rs,nzT x.t ≤ 1000) {o:List Bool} (ho:o.length = rs.length) {Q:CR→Prop}
include hrs hnz ho
theorem v02:∀ (d i:Nat) (acc:List Rul) (k:Nat) (T:List (Nat × (Nat × Nat))),rs.length - i = d→i ≤ rs.length→acc.length ≤ i→T[k]? = some (acc.length,8,73)→Q (.ret (.tup [.agg [.vs (z0c (acc++z3j rs o ((List.range rs.length).drop i))) (acc++z3j rs o ((List.range rs.length).drop i)).length .none],I 0])) →
  z0l Tryz.X49 (cd PP 49 [1,1,1,0,1,0,0]) ([X,.ptr 0 0,.ptr 1 0,X,X,.ptr 2 0,X,X,X,X,X,X,X,X,X,.vs (z07 o) rs.length .none,I rs.length,I i]++List.replicate 18 X) ⟨[some (.cells [.vs (z0c rs) rs.length .none] 25),some (.cells [.vs [] 0 .zero] 25),some (.cells [.vs (z0c acc) acc.length (.own k)] 25)],T,[]⟩ (z0d 0 (z0i Tryz.X49 (cd PP 49 [1,1,1,1]) (z0f Tryz.X49 49 Q))):=by
 have hn:=hrs.2.1
 intro d
 induction d with
 | zero =>
  intro i acc k T hd hi ha hT hQ
  have hi':i = rs.length:=by omega
  subst hi'
  rw [List.drop_of_length_le (by simp),show z3j rs o [] = [] from rfl,List.append_nil] at hQ
  refine z0n (C:=Tryz.X49) (z0y Tryz.bok c49) (z1e Tryz.bok c49) ?_
  rw [w6f]
  refine z0p (decide_eq_false (by omega)) ?_
  exact w9i (T:=T) hQ
 | succ d ih =>
  intro i acc k T hd hi ha hT hQ
  have hlt:i < rs.length:=by omega
  have hlo:i < o.length:=by omega
  obtain ⟨x,hx⟩:∃ x,rs[i]? = some x:=⟨_,List.getElem?_eq_getElem hlt⟩
  have hxm:=List.mem_of_getElem? hx
  rw [z5e hlt] at hQ
  have hk:k < T.length:=(List.getElem?_eq_some_iff.1 hT).1
  refine z0n (C:=Tryz.X49) (z0y Tryz.bok c49) (z1e Tryz.bok c49) ?_
  rw [w6f,x0t hlo,Int.toNat_natCast,z4u hx,x1b,wA1 (a:=i) (by omega),x46]
  refine z0b (decide_eq_true (by omega)) (z0b (z0z _) (z0b (decide_eq_true hlt) (z0b (decide_eq_true (by rw [z8n]; omega)) (z0b (y6t hlo) (z0b (x0s hlo) ?_)))))
  refine z0h (fun h=>?_) (fun h=>?_)
  ·rw [y6j _ h hx,List.append_cons] at hQ
   refine z0b (z0z _) (z0b (decide_eq_true hlt) (z0b (decide_eq_true (z02 rs).symm) (z0b (decide_eq_true (z03 (z02 rs) hlt)) (z0b (z4s x) (z0b (a49 _ x) ⟨⟨x,rfl,hrs.1.2 x hxm,hnz x hxm⟩,rfl,?_⟩)))))
   refine z0b (decide_eq_true (by omega)) (z0b (decide_eq_true (by omega)) (z0b (decide_eq_true (by rw [z02])) (z0b (decide_eq_true hT) (z0b (e49 _ _ _) ?_))))
   have hb:=b49 rs (acc++[x]) (.own k)
   have:=ih (i + 1) (acc++[x]) k (T.set k (acc.length + 1,8,73)) (by omega) (by omega) (by simp; omega) (by rw [List.length_append]; exact List.getElem?_set_self hk) hQ
   rw [List.length_append] at this hb
   exact z0b hb this
  ·rw [y6k _ h] at hQ
   exact z0b (e49 _ _ _) (z0b (b49 rs acc _) (ih (i + 1) acc k T (by omega) (by omega) (by omega) hT hQ))
theorem v01 (h0:∀ x:CR,y71 x = .ret (.tup [.agg [.vs [] 0 .none],I 0])→z3j rs o (List.range rs.length) = []→Q x) (hQ:Q (.ret (.tup [.agg [.vs (z0c (z3j rs o (List.range rs.length))) (z3j rs o (List.range rs.length)).length .none],I 0]))):∀ (d i:Nat),rs.length - i = d→i ≤ rs.length→z3j rs o ((List.range rs.length).drop i) = z3j rs o (List.range rs.length) →
  z0l Tryz.X49 (cd PP 49 [1,1,1,0,1,0,0]) ([X,.ptr 0 0,.ptr 1 0,X,X,.ptr 2 0,X,X,X,X,X,X,X,X,X,.vs (z07 o) rs.length .none,I rs.length,I i]++List.replicate 18 X) ⟨[some (.cells [.vs (z0c rs) rs.length .none] 25),some (.cells [.vs [] 0 .zero] 25),some (.cells [.vs [] 0 .zero] 25)],[],[]⟩ (z0d 0 (z0i Tryz.X49 (cd PP 49 [1,1,1,1]) (z0f Tryz.X49 49 Q))):=by
 have hn:=hrs.2.1
 intro d
 induction d with
 | zero =>
  intro i hd hi he
  have hi':i = rs.length:=by omega
  subst hi'
  rw [List.drop_of_length_le (by simp),show z3j rs o [] = [] from rfl] at he
  refine z0n (C:=Tryz.X49) (z0y Tryz.bok c49) (z1e Tryz.bok c49) ?_
  rw [w6e]
  exact z0p (decide_eq_false (by omega)) (h0 _ rfl he.symm)
 | succ d ih =>
  intro i hd hi he
  have hlt:i < rs.length:=by omega
  have hlo:i < o.length:=by omega
  obtain ⟨x,hx⟩:∃ x,rs[i]? = some x:=⟨_,List.getElem?_eq_getElem hlt⟩
  have hxm:=List.mem_of_getElem? hx
  rw [z5e hlt] at he
  refine z0n (C:=Tryz.X49) (z0y Tryz.bok c49) (z1e Tryz.bok c49) ?_
  rw [w6e,x0t hlo,Int.toNat_natCast,z4u hx,x1b,wA1 (a:=i) (by omega)]
  refine z0b (decide_eq_true (by omega)) (z0b (z0z _) (z0b (decide_eq_true hlt) (z0b (decide_eq_true (by rw [z8n]; omega)) (z0b (y6t hlo) (z0b (x0s hlo) ?_)))))
  refine z0h (fun h=>?_) (fun h=>?_)
  ·rw [y6j _ h hx] at he
   refine z0b (z0z _) (z0b (decide_eq_true hlt) (z0b (decide_eq_true (z02 rs).symm) (z0b (decide_eq_true (z03 (z02 rs) hlt)) (z0b (z4s x) (z0b (a49 _ x) ⟨⟨x,rfl,hrs.1.2 x hxm,hnz x hxm⟩,rfl,?_⟩)))))
   have h1:=v02 hrs hnz ho (Q:=Q) d (i + 1) [x] 0 [(1,8,73)] (by omega) (by omega) (by simp) rfl (by
    rw [show [x]++z3j rs o (List.drop (i + 1) (List.range rs.length)) = z3j rs o (List.range rs.length) from he]
    exact hQ)
   have hb:=b49 rs [x] (.own 0)
   rw [show z0c [x] = z1d x by simp [z0c]] at h1 hb
   exact z0b (e49 _ _ _) (z0b hb h1)
  ·rw [y6k _ h] at he
   exact z0b (e49 _ _ _) (z0b (b49 rs [] _) (ih (i + 1) (by omega) (by omega) he))
end
theorem v1i:Ct Tryz.B.c0 49 R49:=Ct.of_wpZ (l:=[(27,R27),(89,R89),(90,R90)]) (lm:=w7o) (tp:=[]) (ct:=[]) (sm:=[(6,3)]) Tryz.bok c49 ⟨_,_,Tryz.func49,rfl⟩ fun args D r hR hD=>by
 unfold R49 at hR
 split at hR <;> cases hR
 obtain ⟨rs,rfl,rfl,hw⟩:=hD
 refine ⟨by simp [noHL,noH,z0t],?_⟩
 rw [show z0e 0 [AV.agg [.vs (z0c rs) rs.length .none]] = [AV.agg [.vs (z0c rs) rs.length .none]] by simp [z0e,scrub,z1f,Tok.scrub],z0j z0u]
 show wpF Tryz.X49 49 _ _
 rw [v49,z0j z0u,z0j z0u]
 unfold z5q
 refine ⟨⟨rs,rfl,rfl,hw⟩,z0h (fun h=>?_) (fun h=>?_)⟩
 ·have h:¬ chk rs = 0:=by simpa using h
  rw [if_neg h]; rfl
 ·have h:chk rs = 0:=by simpa using h
  obtain ⟨h1,h2,h3⟩:=z8x hw h
  rw [if_pos h]
  refine ⟨⟨rs,rfl,rfl,h1,h2⟩,z0b (e49 _ _ _) (z0b (b49 rs [] _) ?_)⟩
  exact v01 h1 (fun x hx=>by have:=w2d (h3 x hx).1; omega) (z9y rs) (fun x hx he=>by
   rw [hx]
   show _ = CR.ret (.tup [.agg [.vs (z0c (z3j rs (z2l rs) (List.range rs.length))) (z3j rs (z2l rs) (List.range rs.length)).length .none],I 0])
   rw [he]; rfl) (by
   show CR.ret (.tup [.agg [.vs (z7u (z0c (z3j rs (z2l rs) (List.range rs.length)))) (z3j rs (z2l rs) (List.range rs.length)).length .none],I 0]) = _
   rw [x4k]; rfl) rs.length 0 (by omega) (by omega) rfl
end Go.Proofs
set_option maxRecDepth 100000
set_option linter.unusedVariables false
-- elP C19
namespace Go.Proofs
open Go Go.Ev
def R64:Spc:=fun args=>match args with
 | [.agg a,.agg b]=>some ((∃ t,a = z0m t∧wfT t)∧b = a,rB true)
 | _=>none
def v4w:List (Nat × List Nat):=[(4,[2,3,5]),(9,[])]
noncomputable def Tryz.X64 (m:Nat):WCx:=Tryz.B.wcx [(64,R64.below m)] v4w [] [] [(4,2)]
def R23:Spc:=fun args=>match args with
 | [.agg [.vs l len _],.agg [.vs l' len' _]]=>some ((∃ rs,l = z0c rs∧len = rs.length∧z1h rs)∧l' = l∧len' = len,rB true)
 | _=>none
def v4y:List (Nat × List Nat):=[(4,[2,3,5]),(11,[])]
noncomputable def Tryz.X23:WCx:=Tryz.B.wcx [(64,R64)] v4y [] [] [(4,2)]
theorem v64 (m:Nat) (op attr side n op' attr' side' n':Int) (l l':List AV) (len len':Nat) (Q:CR→Prop):wpF (Tryz.X64 m) 64 [.agg [U op,U attr,U side,I n,.vs l len .none],.agg [U op',U attr',U side',I n',.vs l' len' .none]] Q =
 (cIf (op != op') (Q (CR.ret (Bo false))) (cIf (attr != attr') (Q (CR.ret (Bo false))) (cIf (side != side') (Q (CR.ret (Bo false))) (cIf (n != n') (Q (CR.ret (Bo false))) (cIf ((↑len:Int) != (↑len':Int)) (Q (CR.ret (Bo false))) (cIf ([some (HB.cells [U op,U attr,U side,I n,AV.vs l len Tok.none] 71),some (HB.cells [U op',U attr',U side',I n',AV.vs l' len' Tok.none] 71)].all (okBlk 2)) (z0l (Tryz.X64 m) (cd (Tryz.X64 m).P 64 [1,1,0,1,0,0]) ([X,X,AV.ptr 0 0,AV.ptr 1 0,X,I 0]++List.replicate 56 X) (St.mk [some (HB.cells [U op,U attr,U side,I n,AV.vs l len Tok.none] 71),some (HB.cells [U op',U attr',U side',I n',AV.vs l' len' Tok.none] 71)] [] []) (z0d 0 (z0i (Tryz.X64 m) (cd (Tryz.X64 m).P 64 [1,1,1]) (z0f (Tryz.X64 m) 64 Q)))) False)))))):=by kernel_rfl
theorem v4f (m:Nat) (op attr side n op' attr' side' n':Int) (l l':List AV) (len len':Nat) (i:Int) (Q:CR→Prop):wpC (Tryz.X64 m) (cd PP 64 [1,1,0,1,0,0]) ([X,X,.ptr 0 0,.ptr 1 0,X,I i]++List.replicate 56 X) ⟨[some (.cells [U op,U attr,U side,I n,.vs l len .none] 71),some (.cells [U op',U attr',U side',I n',.vs l' len' .none] 71)],[],[]⟩ (z0r (Tryz.X64 m) (cd PP 64 [1,1,0,1,0,0]) (z0d 0 (z0i (Tryz.X64 m) (cd PP 64 [1,1,1]) (z0f (Tryz.X64 m) 64 Q)))) =
 (cIf (decide (i < (↑len:Int))) (cIf (decide ((0:Int) ≤ i)) (cIf (decide (i.toNat < len)) (cIf (decide (len * 5 = l.length)) (cIf (decide (5 ≤ (List.drop (i.toNat * 5) l).length)) (cIf (like zT (el (List.drop (i.toNat * 5) l) 0 5)) (cIf (decide ((0:Int) ≤ i)) (cIf (decide (i.toNat < len')) (cIf (decide (len' * 5 = l'.length)) (cIf (decide (5 ≤ (List.drop (i.toNat * 5) l').length)) (cIf (like zT (el (List.drop (i.toNat * 5) l') 0 5)) (cIf (noHL [some (HB.cells [U op,U attr,U side,I n,AV.vs l len Tok.none] 71),some (HB.cells [U op',U attr',U side',I n',AV.vs l' len' Tok.none] 71)].length ([]++[AV.agg (elT (el (List.drop (i.toNat * 5) l) 0 5)),AV.agg (elT (el (List.drop (i.toNat * 5) l') 0 5))]++[])) ((((∃ (t:Tst),(elT (el (List.drop (i.toNat * 5) l) 0 5)) = z0m t∧wfT t)∧(elT (el (List.drop (i.toNat * 5) l') 0 5)) = (elT (el (List.drop (i.toNat * 5) l) 0 5)))∧z0o ([]++[AV.agg (elT (el (List.drop (i.toNat * 5) l) 0 5)),AV.agg (elT (el (List.drop (i.toNat * 5) l') 0 5))]++[]) < m)∧St.mk [some (HB.cells [U op,U attr,U side,I n,AV.vs l len Tok.none] 71),some (HB.cells [U op',U attr',U side',I n',AV.vs l' len' Tok.none] 71)] [] [] = St.mk [some (HB.cells [U op,U attr,U side,I n,AV.vs l len Tok.none] 71),some (HB.cells [U op',U attr',U side',I n',AV.vs l' len' Tok.none] 71)] [] []∧cIf ([some (HB.cells [U op,U attr,U side,I n,AV.vs l len Tok.none] 71),some (HB.cells [U op',U attr',U side',I n',AV.vs l' len' Tok.none] 71)].all (okBlk 2)) (z0l (Tryz.X64 m) (cd PP 64 [1,1,0,1,0,0]) ([X,X,AV.ptr 0 0,AV.ptr 1 0,X,I (IntKind.i64.wrap (i + (1:Int)))]++List.replicate 56 X) (St.mk [some (HB.cells [U op,U attr,U side,I n,AV.vs l len Tok.none] 71),some (HB.cells [U op',U attr',U side',I n',AV.vs l' len' Tok.none] 71)] [] []) (z0d 0 (z0i (Tryz.X64 m) (cd PP 64 [1,1,1]) (z0f (Tryz.X64 m) 64 Q)))) False) False) False) False) False) False) False) False) False) False) False) False) (Q (CR.ret (Bo true)))):=by kernel_rfl
theorem v23 (l l':List AV) (len len':Nat) (ta tb:Tok) (Q:CR→Prop):wpF Tryz.X23 23 [.agg [.vs l len ta],.agg [.vs l' len' tb]] Q =
 (cIf ((↑len:Int) != (↑len':Int)) (Q (CR.ret (Bo false))) (cIf ([some (HB.cells [AV.vs l len ta] 25),some (HB.cells [AV.vs l' len' tb] 25)].all (okBlk 2)) (z0l Tryz.X23 (cd Tryz.X23.P 23 [1,1,0,1,0,0]) ([X,X,AV.ptr 0 0,AV.ptr 1 0,X,I 0]++List.replicate 55 X) (St.mk [some (HB.cells [AV.vs l len ta] 25),some (HB.cells [AV.vs l' len' tb] 25)] [] []) (z0d 0 (z0i Tryz.X23 (cd Tryz.X23.P 23 [1,1,1]) (z0f Tryz.X23 23 Q)))) False)):=by kernel_rfl
theorem v4m (l l':List AV) (len len':Nat) (ta tb:Tok) (i:Int) (Q:CR→Prop):wpC Tryz.X23 (cd PP 23 [1,1,0,1,0,0]) ([X,X,.ptr 0 0,.ptr 1 0,X,I i]++List.replicate 55 X) ⟨[some (.cells [.vs l len ta] 25),some (.cells [.vs l' len' tb] 25)],[],[]⟩ (z0r Tryz.X23 (cd PP 23 [1,1,0,1,0,0]) (z0d 0 (z0i Tryz.X23 (cd PP 23 [1,1,1]) (z0f Tryz.X23 23 Q)))) =
 (cIf (decide (i < (↑len:Int))) (cIf (decide ((0:Int) ≤ i)) (cIf (decide (i.toNat < len)) (cIf (decide (len * 8 = l.length)) (cIf (decide (8 ≤ (List.drop (i.toNat * 8) l).length)) (cIf (like zR (el (List.drop (i.toNat * 8) l) 0 8)) (cIf (decide ((0:Int) ≤ i)) (cIf (decide (i.toNat < len')) (cIf (decide (len' * 8 = l'.length)) (cIf (decide (8 ≤ (List.drop (i.toNat * 8) l').length)) (cIf (like zR (el (List.drop (i.toNat * 8) l') 0 8)) (((∃ (t:Tst),(z5k (el (List.drop (i.toNat * 8) l) 0 8)) = z0m t∧wfT t)∧(z5k (el (List.drop (i.toNat * 8) l') 0 8)) = (z5k (el (List.drop (i.toNat * 8) l) 0 8)))∧cIf (!cS (el (List.drop (i.toNat * 8) l) 0 8) 0 == cS (el (List.drop (i.toNat * 8) l') 0 8) 0) (Q (CR.ret (Bo false))) (cIf (cI (el (List.drop (i.toNat * 8) l) 0 8) 1 != cI (el (List.drop (i.toNat * 8) l') 0 8) 1) (Q (CR.ret (Bo false))) (cIf (cI (el (List.drop (i.toNat * 8) l) 0 8) 2 != cI (el (List.drop (i.toNat * 8) l') 0 8) 2) (Q (CR.ret (Bo false))) (cIf ([some (HB.cells [AV.vs l len ta] 25),some (HB.cells [AV.vs l' len' tb] 25)].all (okBlk 2)) (z0l Tryz.X23 (cd PP 23 [1,1,0,1,0,0]) ([X,X,AV.ptr 0 0,AV.ptr 1 0,X,I (IntKind.i64.wrap (i + (1:Int)))]++List.replicate 55 X) (St.mk [some (HB.cells [AV.vs l len ta] 25),some (HB.cells [AV.vs l' len' tb] 25)] [] []) (z0d 0 (z0i Tryz.X23 (cd PP 23 [1,1,1]) (z0f Tryz.X23 23 Q)))) False)))) False) False) False) False) False) False) False) False) False) False) (Q (CR.ret (Bo true)))):=by kernel_rfl
end Go.Proofs
set_option maxRecDepth 100000
set_option linter.unusedVariables false
namespace Go.Proofs
open Go Go.Ev
theorem nne {α:Type} [BEq α] [LawfulBEq α] (a:α):(a != a) = false:=by simp
section
variable {m:Nat} (hc:Cts Tryz.B [(64,R64.below m)]) {op attr side n:Int} {of:List Tst} (hwf:z6p of) (hlen:of.length ≤ 9223372036854775807) (hsz:2 * z0o (z0q of) + 2 < m)
include hc hwf hlen hsz
theorem l64:∀ (d i:Nat),of.length - i = d→i ≤ of.length →
  z0l (Tryz.X64 m) (cd PP 64 [1,1,0,1,0,0]) ([X,X,.ptr 0 0,.ptr 1 0,X,I i]++List.replicate 56 X) ⟨[some (.cells [U op,U attr,U side,I n,.vs (z0q of) of.length .none] 71),some (.cells [U op,U attr,U side,I n,.vs (z0q of) of.length .none] 71)],[],[]⟩ (z0d 0 (z0i (Tryz.X64 m) (cd PP 64 [1,1,1]) (z0f (Tryz.X64 m) 64 fun r'=>r' = rB true))):=by
 intro d
 induction d with
 | zero =>
  intro i hd hi
  have hi':i = of.length:=by omega
  subst hi'
  refine z0n (C:=Tryz.X64 m) (z0y Tryz.bok hc) (z1e Tryz.bok hc) ?_
  rw [v4f]
  exact z0p (decide_eq_false (by omega)) rfl
 | succ d ih =>
  intro i hd hi
  have hlt:i < of.length:=by omega
  obtain ⟨x,hx⟩:∃ x,of[i]? = some x:=⟨_,List.getElem?_eq_getElem hlt⟩
  have hs:=z5y hx
  refine z0n (C:=Tryz.X64 m) (z0y Tryz.bok hc) (z1e Tryz.bok hc) ?_
  rw [v4f,Int.toNat_natCast,z6x hx,z6m,wA1 (a:=i) (by omega)]
  refine z0b (decide_eq_true (by omega)) (z0b (z0z _) (z0b (decide_eq_true hlt) (z0b (decide_eq_true (z1n of).symm) (z0b (decide_eq_true (z03 (z1n of) hlt)) (z0b (z2w x) (z0b (z0z _) (z0b (decide_eq_true hlt) (z0b (decide_eq_true (z1n of).symm) (z0b (decide_eq_true (z03 (z1n of) hlt)) (z0b (z2w x) (z0b (by simp [noHL,noH,z1k]) ⟨⟨⟨⟨x,rfl,x27 hwf (List.mem_of_getElem? hx)⟩,rfl⟩,?_⟩,rfl,?_⟩)))))))))))
  ·show z0o [AV.agg (z0m x),AV.agg (z0m x)] < m
   simp only [z0o,z2q]
   omega
  ·exact z0b (by simp [okBlk,noHB,noHL,noH,z19]) (ih (i + 1) (by omega) (by omega))
end
theorem v7u:Ct Tryz.B.c0 64 R64:=Ct.of_rec (l:=[]) (lm:=v4w) (tp:=[]) (ct:=[]) (sm:=[(4,2)]) Tryz.bok (Cts.nil _) ⟨_,_,Tryz.func64,rfl⟩ fun m args D r hc hR hD hm=>by
 unfold R64 at hR
 split at hR <;> cases hR
 obtain ⟨⟨⟨op,attr,side,n,of⟩,rfl,hw⟩,rfl⟩:=hD
 simp only [wfT] at hw
 refine ⟨by simp [noHL,noH,z1k],?_⟩
 rw [show ∀ t:Tst,z0e 0 [AV.agg (z0m t),.agg (z0m t)] = [AV.agg (z0m t),.agg (z0m t)] from fun t=>by simp [z0e,scrub,z3q]]
 have hsz:2 * z0o (z0q of) + 2 < m:=by simp only [z0o,z2q,z0m] at hm; omega
 rw [show z0m (.mk op attr side n of) = [U op,U attr,U side,I n,.vs (z0q of) of.length .none] from by rw [z0m]]
 show wpF (Tryz.X64 m) 64 _ _
 rw [v64]
 exact z0p (nne _) (z0p (nne _) (z0p (nne _) (z0p (nne _) (z0p (nne _) (z0b (by simp [okBlk,noHB,noHL,noH,z19]) (l64 hc hw.2.2.2.2.2.2.2.2.2 hw.2.2.2.2.2.2.2.2.1 hsz of.length 0 (by omega) (by omega)))))))
theorem c23:Cts Tryz.B [(64,R64)]:=(Cts.nil _).cons v7u
section
variable {rs:List Rul} (hw:z1h rs) (ta tb:Tok)
include hw
theorem b23:[some (HB.cells [AV.vs (z0c rs) rs.length (ta.scrub 0)] 25),some (HB.cells [AV.vs (z0c rs) rs.length (tb.scrub 0)] 25)].all (okBlk 2) = true:=by
 have _:=hw
 simp [okBlk,noHB,noHL,noH,z0t]
theorem l23:∀ (d i:Nat),rs.length - i = d→i ≤ rs.length →
  z0l Tryz.X23 (cd PP 23 [1,1,0,1,0,0]) ([X,X,.ptr 0 0,.ptr 1 0,X,I i]++List.replicate 55 X) ⟨[some (.cells [.vs (z0c rs) rs.length (ta.scrub 0)] 25),some (.cells [.vs (z0c rs) rs.length (tb.scrub 0)] 25)],[],[]⟩ (z0d 0 (z0i Tryz.X23 (cd PP 23 [1,1,1]) (z0f Tryz.X23 23 fun r'=>r' = rB true))):=by
 have hlen:=hw.1
 intro d
 induction d with
 | zero =>
  intro i hd hi
  have hi':i = rs.length:=by omega
  subst hi'
  refine z0n (C:=Tryz.X23) (z0y Tryz.bok c23) (z1e Tryz.bok c23) ?_
  rw [v4m]
  exact z0p (decide_eq_false (by omega)) rfl
 | succ d ih =>
  intro i hd hi
  have hlt:i < rs.length:=by omega
  obtain ⟨x,hx⟩:∃ x,rs[i]? = some x:=⟨_,List.getElem?_eq_getElem hlt⟩
  have hxm:=List.mem_of_getElem? hx
  refine z0n (C:=Tryz.X23) (z0y Tryz.bok c23) (z1e Tryz.bok c23) ?_
  rw [v4m,Int.toNat_natCast,z4u hx,y1q,wA1 (a:=i) (by omega)]
  refine z0b (decide_eq_true (by omega)) (z0b (z0z _) (z0b (decide_eq_true hlt) (z0b (decide_eq_true (z02 rs).symm) (z0b (decide_eq_true (z03 (z02 rs) hlt)) (z0b (z4s x) (z0b (z0z _) (z0b (decide_eq_true hlt) (z0b (decide_eq_true (z02 rs).symm) (z0b (decide_eq_true (z03 (z02 rs) hlt)) (z0b (z4s x) ⟨⟨⟨x.t,rfl,(hw.2 x hxm).1⟩,rfl⟩,?_⟩))))))))))
  exact z0p (by simp) (z0p (nne _) (z0p (nne _) (z0b (b23 hw ta tb) (ih (i + 1) (by omega) (by omega)))))
end
theorem v7z:Ct Tryz.B.c0 23 R23:=Ct.of_wp (l:=[(64,R64)]) (lm:=v4y) (tp:=[]) (ct:=[]) (sm:=[(4,2)]) Tryz.bok c23 ⟨_,_,Tryz.func23,rfl⟩ fun args D r hR hD=>by
 unfold R23 at hR
 split at hR <;> cases hR
 rename_i _ _ ta _ _ tb
 obtain ⟨⟨rs,rfl,rfl,hw⟩,rfl,rfl⟩:=hD
 refine ⟨by simp [noHL,noH,z0t],?_⟩
 rw [show z0e 0 [AV.agg [.vs (z0c rs) rs.length ta],AV.agg [.vs (z0c rs) rs.length tb]] = [AV.agg [.vs (z0c rs) rs.length (ta.scrub 0)],AV.agg [.vs (z0c rs) rs.length (tb.scrub 0)]] by simp [z0e,scrub,z1f]]
 show wpF Tryz.X23 23 _ _
 rw [v23]
 exact z0p (nne _) (z0b (b23 hw ta tb) (l23 hw ta tb rs.length 0 (by omega) (by omega)))
end Go.Proofs
