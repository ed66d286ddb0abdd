/- Contracts of functions of the program and of the reference. -/
import Derived.Test.YtljjkomdibkjpaaGreatDoorK5
set_option linter.unusedVariables false
set_option linter.unusedSimpArgs false
set_option maxRecDepth 100000
set_option linter.unusedVariables false
namespace Go.Proofs
open Go Go.Ev
def szV (t:Tst):Int × Int:=if (vz t 1 0 0).1 = true then (vz t 1 0 0).2 else (25,7)
noncomputable def R55:Spc:=fun args=>match args with
 | [.agg l]=>some (∃ t,l = z0m t∧wfT t,.ret (.tup [I (z0g z0m szV (0,0) l).1,I (z0g z0m szV (0,0) l).2]))
 | _=>none
noncomputable def Tryz.X55:WCx:=(Tryz.B.hk 94 (z3c 4 R94)).wcx []
noncomputable def R75v:Spc:=fun args=>match args with
 | [.agg l]=>some (∃ t,l = z0m t∧wfT t,rB (z0g z0m (fun t=>decide ((szV t).1 ≤ 24)) false l))
 | _=>none
noncomputable def Tryz.X75:WCx:=Tryz.B.wcx [(55,R55)]
theorem v55 (op at' sd n:Int) (l:List AV) (len:Nat) (Q:CR→Prop):wpF Tryz.X55 55 [.agg [U op,U at',U sd,I n,.vs l len .none]] Q =
 (((∃ (t:Tst),[U op,U at',U sd,I n,AV.vs l len Tok.none] = z0m t∧wfT t)∧(71 = (71:TypeId)∧3 = (3:TypeId)∧3 = (3:TypeId)∧132 = (132:TypeId))∧(noHL 4 [U op,U at',U sd,I n,AV.vs l len Tok.none] = true∧z0e 0 [U op,U at',U sd,I n,AV.vs l len Tok.none] = [U op,U at',U sd,I n,AV.vs l len Tok.none])∧(0:Int) ≤ (0:Int)∧(0:Int) ≤ (24:Int)∧(0:Int) ≤ (0:Int)∧(0:Int) ≤ (6:Int)∧(1:Int) ≤ (1:Int)∧(1:Int) ≤ (7:Int))∧(noHL 4 ([]++[AV.agg [U op,U at',U sd,I n,AV.vs l len Tok.none],I 1]++[AV.ptr 1 0,AV.ptr 2 0,AV.ptr 3 0]) = true∧(List.take 4 (St.mk [some (HB.cells [U op,U at',U sd,I n,AV.vs l len Tok.none] 71),some (HB.cells [I 0] 3),some (HB.cells [I 0] 3),some (HB.cells [AV.fn (Fn.func 94) [] [AV.ptr 1 0,AV.ptr 2 0,AV.ptr 3 0]] 132)] [] [3,2,1]).hs).all (z1i 4) = true∧[some (HB.cells [U op,U at',U sd,I n,AV.vs l len Tok.none] (71:TypeId)),some (HB.cells [I (z0g z0m (fun (t:Tst)=>(vz t (1:Int) (0:Int) (0:Int)).snd.fst) (0:Int) [U op,U at',U sd,I n,AV.vs l len Tok.none])] (3:TypeId)),some (HB.cells [I (z0g z0m (fun (t:Tst)=>(vz t (1:Int) (0:Int) (0:Int)).snd.snd) (0:Int) [U op,U at',U sd,I n,AV.vs l len Tok.none])] (3:TypeId)),some (HB.cells [AV.fn (Fn.func 94) [] [AV.ptr 1 0,AV.ptr 2 0,AV.ptr 3 0]] (132:TypeId))].length = 4∧4 ≤ (St.mk [some (HB.cells [U op,U at',U sd,I n,AV.vs l len Tok.none] 71),some (HB.cells [I 0] 3),some (HB.cells [I 0] 3),some (HB.cells [AV.fn (Fn.func 94) [] [AV.ptr 1 0,AV.ptr 2 0,AV.ptr 3 0]] 132)] [] [3,2,1]).hs.length)∧cIf (!z0g z0m (fun (t:Tst)=>(vz t (1:Int) (0:Int) (0:Int)).fst) false [U op,U at',U sd,I n,AV.vs l len Tok.none]) (Q (CR.ret (AV.tup [I 25,I 7]))) (Q (CR.ret (AV.tup [AV.int IntKind.i64 (z0g z0m (fun (t:Tst)=>(vz t (1:Int) (0:Int) (0:Int)).snd.fst) (0:Int) [U op,U at',U sd,I n,AV.vs l len Tok.none]),AV.int IntKind.i64 (z0g z0m (fun (t:Tst)=>(vz t (1:Int) (0:Int) (0:Int)).snd.snd) (0:Int) [U op,U at',U sd,I n,AV.vs l len Tok.none])])))):=by kernel_rfl
theorem v75 (op at' sd n:Int) (l:List AV) (len:Nat) (Q:CR→Prop):wpF Tryz.X75 75 [.agg [U op,U at',U sd,I n,.vs l len .none]] Q =
 ((∃ (t:Tst),[U op,U at',U sd,I n,AV.vs l len Tok.none] = z0m t∧wfT t)∧Q (CR.ret (Bo (decide ((z0g z0m szV ((0:Int),(0:Int)) [U op,U at',U sd,I n,AV.vs l len Tok.none]).fst ≤ (24:Int)))))):=by kernel_rfl
end Go.Proofs
set_option maxRecDepth 100000
set_option linter.unusedVariables false
namespace Go.Proofs
open Go Go.Ev
theorem w4u:BaseOk (Tryz.B.hk 94 (z3c 4 R94)):=Tryz.bok.hk (ct94.hook Tryz.gtpB)
theorem w77:Ct Tryz.B.c0 55 R55:=Ct.of_wp (B:=Tryz.B.hk 94 (z3c 4 R94)) (lm:=[]) w4u (Cts.nil _) ⟨_,_,Tryz.func55,rfl⟩ fun args D r hR hD=>by
 unfold R55 at hR
 split at hR <;> cases hR
 obtain ⟨⟨op,at',sd,n,of⟩,rfl,hw⟩:=hD
 refine ⟨by simp [noHL,noH,z1k],?_⟩
 rw [show z0e 0 [AV.agg (z0m (.mk op at' sd n of))] = [AV.agg (z0m (.mk op at' sd n of))] by simp [z0e,scrub,z3q]]
 refine (v55 op at' sd n _ _ _).mpr ?_
 rw [show [U op,U at',U sd,I n,AV.vs (z0q of) of.length Tok.none] = z0m (.mk op at' sd n of) from rfl]
 simp only [z0j (fun _ _=>z1a _ _)]
 refine ⟨⟨⟨_,rfl,hw⟩,by simp,⟨z1k _ _,z3q _ _⟩,by simp⟩,⟨by simp [noHL,noH,z1k],by simp [z1i,noHB,noHL,noH,z1k],rfl,by simp⟩,?_⟩
 refine z0h (fun h=>?_) (fun h=>?_)
 ·have h:(vz (.mk op at' sd n of) 1 0 0).1 = false:=by simpa using h
  simp [szV,h]
 ·have h:(vz (.mk op at' sd n of) 1 0 0).1 = true:=by simpa using h
  simp [szV,h]
theorem ct75v:Ct Tryz.B.c0 75 R75v:=Ct.of_wp (lm:=[]) Tryz.bok ((Cts.nil _).cons w77) ⟨_,_,Tryz.func75,rfl⟩ fun args D r hR hD=>by
 unfold R75v at hR
 split at hR <;> cases hR
 obtain ⟨⟨op,at',sd,n,of⟩,rfl,hw⟩:=hD
 refine ⟨by simp [noHL,noH,z1k],?_⟩
 rw [show z0e 0 [AV.agg (z0m (.mk op at' sd n of))] = [AV.agg (z0m (.mk op at' sd n of))] by simp [z0e,scrub,z3q]]
 refine (v75 op at' sd n _ _ _).mpr ⟨⟨_,rfl,hw⟩,?_⟩
 rw [show [U op,U at',U sd,I n,AV.vs (z0q of) of.length Tok.none] = z0m (.mk op at' sd n of) from rfl,z0j (fun _ _=>z1a _ _),z0j (fun _ _=>z1a _ _)]
end Go.Proofs
set_option maxRecDepth 100000
set_option linter.unusedVariables false
namespace Go.Proofs
open Go Go.Ev
mutual
def nN:Tst→Int
 | .mk _ _ _ _ of=>nNL of + 1
def nNL:List Tst→Int
 | []=>0
 | t :: l=>nN t + nNL l
end
mutual
def hH:Tst→Int
 | .mk _ _ _ _ of=>hHL of + 1
def hHL:List Tst→Int
 | []=>0
 | t :: l=>max (hH t) (hHL l)
end
mutual
theorem y6d:∀ t,1 ≤ nN t
 | .mk _ _ _ _ of=>by simp only [nN]; have:=y1x of; omega
theorem y1x:∀ l,0 ≤ nNL l
 | []=>by simp [nNL]
 | t :: l=>by simp only [nNL]; have:=y6d t; have:=y1x l; omega
end
mutual
theorem y6o:∀ t,1 ≤ hH t
 | .mk _ _ _ _ of=>by simp only [hH]; have:=y0l of; omega
theorem y0l:∀ l,0 ≤ hHL l
 | []=>by simp [hHL]
 | t :: l=>by simp only [hHL]; have:=y6o t; have:=y0l l; omega
end
mutual
theorem x1t:∀ (t:Tst) (m:Int),0 ≤ m→z5i t m = min (nN t) (m + 1)
 | .mk _ _ _ _ of,m,hm=>by
  simp only [z5i,nN]
  rw [x1u of m 1 hm (by omega) (by omega)]; congr 1; omega
theorem x1u:∀ (l:List Tst) (m n:Int),0 ≤ m→1 ≤ n→n ≤ m + 1→z7x l m n = min (n + nNL l) (m + 1)
 | [],m,n,h1,h2,h3=>by simp only [z7x,nNL]; omega
 | t :: l,m,n,h1,h2,h3=>by
  simp only [z7x,nNL]
  have p1:=y6d t
  have p2:=y1x l
  split
  ·have:=x1t t (m - n) (by omega)
   rw [x1u l m _ h1 (by omega) (by omega)]
   omega
  ·omega
end
mutual
theorem x4q:∀ (t:Tst) (m:Int),0 ≤ m→dpT t m = min (hH t) (m + 1)
 | .mk _ _ _ _ of,m,hm=>by
  simp only [dpT,hH]
  have p:=y0l of
  rw [x4s of m 0 (by omega) (by omega)]
  omega
theorem x4s:∀ (l:List Tst) (m d:Int),0 ≤ d→d ≤ m→dpL l m d = min (max d (hHL l)) m
 | [],m,d,h1,h2=>by simp only [dpL,hHL]; omega
 | t :: l,m,d,h1,h2=>by
  simp only [dpL,hHL]
  have p1:=y6o t
  have p2:=y0l l
  split
  ·have:=x4q t (m - 1) (by omega)
   have hq:(if dpT t (m - 1) > d then dpT t (m - 1) else d) = max d (dpT t (m - 1)):=by split <;> omega
   rw [hq,x4s l m _ (by omega) (by omega)]
   omega
  ·omega
end
mutual
theorem x68:∀ (t:Tst) (k c d:Int),1 ≤ k→k - 1 ≤ d→d ≤ 6→0 ≤ c→c ≤ 24 →
  (c + nN t ≤ 24∧k + hH t - 1 ≤ 6→vz t k c d = (true,c + nN t,max d (k + hH t - 1)))∧(¬ (c + nN t ≤ 24∧k + hH t - 1 ≤ 6)→(vz t k c d).1 = false)
 | .mk _ _ _ _ of,k,c,d,h0,h1,h2,h3,h4=>by
  simp only [vz,nN,hH]
  have p1:=y1x of
  have p2:=y0l of
  have he:(if k > d then k else d) = max d k:=by split <;> omega
  rw [he]
  by_cases hb:c + 1 > 24 ∨ max d k > 6
  ·rw [if_pos hb]
   exact ⟨fun h=>by omega,fun _=>rfl⟩
  ·rw [if_neg hb]
   obtain ⟨q1,q2⟩:=x3o of (k + 1) (c + 1) (max d k) (by omega) (by omega) (by omega) (by omega) (by omega)
   refine ⟨fun h=>?_,fun h=>q2 (by omega)⟩
   rw [q1 (by omega)]
   simp only [Prod.mk.injEq,true_and]
   omega
theorem x3o:∀ (l:List Tst) (k c d:Int),1 ≤ k→k - 1 ≤ d→d ≤ 6→0 ≤ c→c ≤ 24 →
  (c + nNL l ≤ 24∧k + hHL l - 1 ≤ 6→vzL l k c d = (true,c + nNL l,max d (k + hHL l - 1)))∧(¬ (c + nNL l ≤ 24∧k + hHL l - 1 ≤ 6)→(vzL l k c d).1 = false)
 | [],k,c,d,h0,h1,h2,h3,h4=>by
  simp only [vzL,nNL,hHL]
  refine ⟨fun _=>?_,fun h=>by omega⟩
  simp only [Prod.mk.injEq,true_and]
  omega
 | t :: l,k,c,d,h0,h1,h2,h3,h4=>by
  simp only [vzL,nNL,hHL]
  have p1:=y6d t
  have p2:=y1x l
  have p3:=y6o t
  have p4:=y0l l
  obtain ⟨q1,q2⟩:=x68 t k c d h0 h1 h2 h3 h4
  by_cases hb:c + nN t ≤ 24∧k + hH t - 1 ≤ 6
  ·rw [q1 hb]
   simp only [if_true]
   obtain ⟨r1,r2⟩:=x3o l k (c + nN t) (max d (k + hH t - 1)) h0 (by omega) (by omega) (by omega) (by omega)
   refine ⟨fun h=>?_,fun h=>r2 (by omega)⟩
   rw [r1 (by omega)]
   simp only [Prod.mk.injEq,true_and]
   omega
  ·have:=q2 hb
   rw [if_neg (by rw [this]; simp)]
   exact ⟨fun h=>by omega,fun _=>this⟩
end
theorem w0s (t:Tst):szV t = szR t:=by
 unfold szV szR
 rw [x1t t 24 (by omega),x4q t 6 (by omega)]
 have p1:=y6d t
 have p3:=y6o t
 obtain ⟨q1,q2⟩:=x68 t 1 0 0 (by omega) (by omega) (by omega) (by omega) (by omega)
 by_cases hb:0 + nN t ≤ 24∧1 + hH t - 1 ≤ 6
 ·rw [q1 hb,if_pos rfl,if_neg (by omega),if_neg (by omega)]
  simp only [Prod.mk.injEq]
  omega
 ·rw [if_neg (by rw [q2 hb]; simp)]
  by_cases hc:min (nN t) (24 + 1) > 24
  ·rw [if_pos hc]
  ·rw [if_neg hc,if_pos (by omega)]
theorem x9y:Ct Tryz.B.c0 75 R75:=by
 refine ⟨ct75v.body,fun args D r hR hD=>ct75v.ok args D r ?_ hD⟩
 have:R75v = R75:=by
  unfold R75v R75
  simp only [w0s]
  rfl
 rw [this]; exact hR
theorem x47:Ct Tryz.B.c0 27 R27:=x90 x9y
end Go.Proofs
set_option maxRecDepth 100000
set_option linter.unusedVariables false
namespace Go.Proofs
open Go Go.Ev
def pOk (p:Prf):Int:=if okP p.cl p.vi p.cr p.le then 0 else 1
noncomputable def Tryz.X77:WCx:=Tryz.B.wcx [(27,R27),(30,R30)]
theorem v77 (l:List AV) (len:Nat) (tk:Tok) (p q:Prf) (Q:CR→Prop):wpF Tryz.X77 77 [.agg [.vs l len tk],.agg (z0a p),.agg (z0a q)] Q =
 ((∃ (rs:List Rul),l = z0c rs∧len = rs.length∧z1h rs)∧cIf (z0g z0c chk (0:Int) l != (0:Int)) (Q (CR.ret (I (z0g z0c chk (0:Int) l)))) (True∧St.mk [some (HB.cells [AV.vs l len tk] 25),some (HB.cells (z0a p) 40),some (HB.cells (z0a q) 40)] [] [] = St.mk [some (HB.cells [AV.vs l len tk] 25),some (HB.cells (z0a p) 40),some (HB.cells (z0a q) 40)] [] []∧True∧St.mk [some (HB.cells [AV.vs l len tk] 25),some (HB.cells (z0a p) 40),some (HB.cells (z0a q) 40)] [] [] = St.mk [some (HB.cells [AV.vs l len tk] 25),some (HB.cells (z0a p) 40),some (HB.cells (z0a q) 40)] [] []∧Q (CR.ret (AV.int IntKind.i64 (if (if okP q.cl q.vi q.cr q.le = true then (0:Int) else (1:Int)) > if okP p.cl p.vi p.cr p.le = true then (0:Int) else (1:Int) then if okP q.cl q.vi q.cr q.le = true then (0:Int) else (1:Int) else if okP p.cl p.vi p.cr p.le = true then (0:Int) else (1:Int)))))):=by kernel_rfl
end Go.Proofs
set_option maxRecDepth 100000
set_option linter.unusedVariables false
namespace Go.Proofs
open Go Go.Ev
def z1v (rs:List Rul) (p q:Prf):Int:=if chk rs = 0 then (if pOk q > pOk p then pOk q else pOk p) else chk rs
noncomputable def R77:Spc:=fun args=>match args with
 | [.agg [.vs l len _],.agg a,.agg b]=>some ((∃ rs,l = z0c rs∧len = rs.length∧z1h rs)∧(∃ p,a = z0a p)∧∃ q,b = z0a q,rI (z0g z0c (fun rs=>z0g z0a (fun p=>z0g z0a (fun q=>z1v rs p q) 0 b) 0 a) 0 l))
 | _=>none
theorem z2u (p:Prf):z0e 0 (z0a p) = z0a p:=rfl
theorem z04 (n:Nat) (p:Prf):noHL n (z0a p) = true:=rfl
theorem w2k:Ct Tryz.B.c0 77 R77:=Ct.of_wp (lm:=[]) Tryz.bok (((Cts.nil _).cons w1u).cons x47) ⟨_,_,Tryz.func77,rfl⟩ fun args D r hR hD=>by
 unfold R77 at hR
 split at hR <;> cases hR
 rename_i tk _ _
 obtain ⟨⟨rs,rfl,rfl,hw⟩,⟨p,rfl⟩,q,rfl⟩:=hD
 refine ⟨by simp [noHL,noH,z0t,z04],?_⟩
 rw [show z0e 0 [AV.agg [.vs (z0c rs) rs.length tk],.agg (z0a p),.agg (z0a q)] = [AV.agg [.vs (z0c rs) rs.length (tk.scrub 0)],.agg (z0a p),.agg (z0a q)] by simp [z0e,scrub,z1f,z2u]]
 refine (v77 _ _ _ p q _).mpr ⟨⟨rs,rfl,rfl,hw⟩,?_⟩
 simp only [z0j z0u,z0j z0w]
 refine z0h (fun h=>?_) (fun h=>⟨trivial,trivial,trivial,trivial,?_⟩)
 ·have h:¬ chk rs = 0:=by simpa using h
  rw [z1v,if_neg h]
 ·have h:chk rs = 0:=by simpa using h
  rw [z1v,if_pos h]
  rfl
end Go.Proofs
