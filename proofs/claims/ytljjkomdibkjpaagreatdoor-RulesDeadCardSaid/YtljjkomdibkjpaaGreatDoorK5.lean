/- Contracts of functions of the program and of the reference. -/
import Derived.Test.YtljjkomdibkjpaaGreatDoorK4
import Derived.Test.YtljjkomdibkjpaaGreatDoorK2
import Derived.Test.YtljjkomdibkjpaaGreatDoorE5
set_option linter.unusedVariables false
set_option linter.unusedSimpArgs false
set_option maxRecDepth 100000
set_option linter.unusedVariables false
namespace Go.Proofs
open Go Go.Ev
noncomputable def R75:Spc:=fun args=>match args with
 | [.agg l]=>some (∃ t,l = z0m t∧wfT t,rB (z0g z0m z4h false l))
 | _=>none
noncomputable def R27:Spc:=fun args=>match args with
 | [.agg [.vs l len _]]=>some (∃ rs,l = z0c rs∧len = rs.length∧z1h rs,rI (z0g z0c chk 0 l))
 | _=>none
def w1i:List (Nat × List Nat):=[(4,[1,10,11,12]),(6,[1,3,4,10,11,12]),(17,[])]
noncomputable def Tryz.X27:WCx:=Tryz.BS.wcx [(72,R72),(75,R75),(76,R76)] w1i [] [6] [(4,1),(6,2)]
theorem v27 (l:List AV) (len:Nat) (tk:Tok) (Q:CR→Prop):wpF Tryz.X27 27 [.agg [.vs l len tk]] Q =
 (cIf (decide ((↑len:Int) > (24:Int))) (Q (CR.ret (I 2))) (cIf (noHL 1 ([X,AV.ptr 0 0,X,X,X,X,X,X,X,X,AV.vs l len tk,I len,I 0]++List.replicate 46 X)) (cIf ([some (HB.cells [AV.vs l len tk] 25)].all (okBlk 1)) (z0l Tryz.X27 (cd Tryz.X27.P 27 [1,1,0,1,0,0]) ([X,AV.ptr 0 0,X,X,X,X,X,X,X,X,AV.vs l len tk,I len,I 0]++List.replicate 46 X) (St.mk [some (HB.cells [AV.vs l len tk] 25)] [] []) (z0d 0 (z0i Tryz.X27 (cd Tryz.X27.P 27 [1,1,1]) (z0f Tryz.X27 27 Q)))) False) False)):=by kernel_rfl
theorem w0h (l:List AV) (len i:Nat) (tk:Tok) (Q:CR→Prop):wpC Tryz.X27 (cd PP 27 [1,1,0,1,0,0]) ([X,.ptr 0 0,X,X,X,X,X,X,X,X,.vs l len tk,I len,I i]++List.replicate 46 X) ⟨[some (.cells [.vs l len tk] 25)],[],[]⟩ (z0r Tryz.X27 (cd PP 27 [1,1,0,1,0,0]) (z0d 0 (z0i Tryz.X27 (cd PP 27 [1,1,1]) (z0f Tryz.X27 27 Q)))) =
 (cIf (decide ((↑i:Int) < (↑len:Int))) (cIf (decide (i < len)) (cIf (decide (len * 8 = l.length)) (cIf (decide (8 ≤ (List.drop (i * 8) l).length)) (cIf (like zR (el (List.drop (i * 8) l) 0 8)) (cIf (noHL 2 ([X,AV.ptr 0 0,X,I i,AV.ptr 1 0,X,X,X,X,X,AV.vs l len tk,I len,I i]++List.replicate 46 X)) (cIf ([some (HB.cells [AV.vs l len tk] 25),some (HB.cells (z1y zR 0 (elR (el (List.drop (i * 8) l) 0 8))) 73)].all (okBlk 2)) (z0k Tryz.X27 (cd PP 27 [1,1,0,1,0,0,1,1,0,0,1]) ([X,AV.ptr 0 0,X,I i,AV.ptr 1 0,X,X,X,X,X,AV.vs l len tk,I len,I i]++List.replicate 46 X) (St.mk [some (HB.cells [AV.vs l len tk] 25),some (HB.cells (z1y zR 0 (elR (el (List.drop (i * 8) l) 0 8))) 73)] [] []) (z0d 1 (z0i Tryz.X27 (cd PP 27 [1,1,0,1,0,0,1,1,1]) (z0r Tryz.X27 (cd PP 27 [1,1,0,1,0,0]) (z0d 0 (z0i Tryz.X27 (cd PP 27 [1,1,1]) (z0f Tryz.X27 27 Q))))))) False) False) False) False) False) False) (Q (CR.ret (I 0)))):=by kernel_rfl
theorem w6m (l:List AV) (len i:Nat) (tk:Tok) (x:Rul) (Q:CR→Prop):wpC Tryz.X27 (cd PP 27 [1,1,0,1,0,0,1,1,0,0,1]) ([X,.ptr 0 0,X,I i,.ptr 1 0,X,X,X,X,X,.vs l len tk,I len,I i]++List.replicate 46 X) ⟨[some (.cells [.vs l len tk] 25),some (.cells (z1d x) 73)],[],[]⟩ (z0d 1 (z0i Tryz.X27 (cd PP 27 [1,1,0,1,0,0,1,1,1]) (z0r Tryz.X27 (cd PP 27 [1,1,0,1,0,0]) (z0d 0 (z0i Tryz.X27 (cd PP 27 [1,1,1]) (z0f Tryz.X27 27 Q)))))) =
 (x.name.length ≤ 9223372036854775807∧cIf (!z1s x.name) (Q (CR.ret (I 4))) (cIf (decide (i ≤ len)) (((∃ (rs:List Rul),List.take ((i - 0) * 8) l = z0c rs∧i - 0 = rs.length∧rs.length ≤ 9223372036854775807)∧noHL 0 (z0q x.t.of) = true∧z0e 0 (z0q x.t.of) = z0q x.t.of)∧(y3k (rB (z0g z0c (fun (rs:List Rul)=>decide (fnm x.name rs (0:Int) ≥ (0:Int))) false (List.take ((i - 0) * 8) l))) = true∧z4j (St.mk [some (HB.cells [AV.vs l len tk] 25),some (HB.cells (z1d x) 73)] [] []).hs ([]++[AV.vs (List.take ((i - 0) * 8) l) (i - 0) (if 0 = 0∧i = len then tk else Tok.none),AV.fn (Fn.func 74) [] [AV.ptr 1 0]]++[]) = true)∧cIf (z0g z0c (fun (rs:List Rul)=>decide (fnm x.name rs (0:Int) ≥ (0:Int))) false (List.take ((i - 0) * 8) l)) (Q (CR.ret (I 6))) (cIf (decide (x.rank < (1:Int))) (Q (CR.ret (I 1))) (cIf (decide (x.rank > (99:Int))) (Q (CR.ret (I 1))) (cIf (decide (x.weight < (1:Int))) (Q (CR.ret (I 1))) (cIf (decide (x.weight > (1000:Int))) (Q (CR.ret (I 1))) ((∃ (t:Tst),(y0e x.t) = z0m t∧wfT t)∧cIf (!z0g z0m z4h false (y0e x.t)) (Q (CR.ret (I 2))) ((∃ (t:Tst),(y0e x.t) = z0m t∧wfT t)∧cIf (!z0g z0m shT false (y0e x.t)) (Q (CR.ret (I 1))) (cIf (noHL 1 ([X,AV.ptr 0 0,X,X,X,X,X,X,X,X,AV.vs l len tk,I len,I (IntKind.i64.wrap ((↑i:Int) + (1:Int)))]++List.replicate 46 X)) (cIf ([some (HB.cells [AV.vs l len tk] 25)].all (okBlk 1)) (z0l Tryz.X27 (cd PP 27 [1,1,0,1,0,0]) ([X,AV.ptr 0 0,X,X,X,X,X,X,X,X,AV.vs l len tk,I len,I (IntKind.i64.wrap ((↑i:Int) + (1:Int)))]++List.replicate 46 X) (St.mk [some (HB.cells [AV.vs l len tk] 25)] [] []) (z0d 0 (z0i Tryz.X27 (cd PP 27 [1,1,1]) (z0f Tryz.X27 27 Q)))) False) False)))))))) False)):=by kernel_rfl
end Go.Proofs
set_option maxRecDepth 100000
set_option linter.unusedVariables false
namespace Go.Proofs
open Go Go.Ev
theorem y1i (n:Nat):∀ l m:List AV,z3h n (l++m) = (z3h n l && z3h n m)
 | [],m=>by simp [z3h]
 | a :: l,m=>by simp [z3h,y1i n l m,Bool.and_assoc]
mutual
theorem x52 (n:Nat):∀ t:Tst,z3h n (z0m t) = true
 | .mk op attr side k of=>by simp [z0m,z3h,noT,y3r n of]
theorem y3r (n:Nat):∀ l:List Tst,z3h n (z0q l) = true
 | []=>rfl
 | t :: l=>by simp [z0q,y1i,x52 n t,y3r n l]
end
theorem y9m (n:Nat) (x:Rul):z3h n (z1d x) = true:=by simp [z1d,z3h,noT,y3r]
theorem y3s (n:Nat):∀ l:List Rul,z3h n (z0c l) = true
 | []=>rfl
 | t :: l=>by simp [z0c,y1i,y9m n t,y3s n l]
theorem y6s:∀ (l:List Rul) (i:Nat),(z0c l).take (i * 8) = z0c (l.take i)
 | [],i=>by simp [z0c]
 | x :: l,0=>by simp [z0c]
 | x :: l,i + 1=>by
  rw [List.take_succ_cons]
  simp only [z0c]
  rw [show (i + 1) * 8 = (z1d x).length + i * 8 by rw [z8c]; omega,List.take_length_add_append,y6s l i]
theorem x1o (s:List UInt8):∀ (l:List Rul) (i:Int),0 ≤ i→decide (fnm s l i ≥ 0) = l.any fun y=>y.name == s
 | [],i,h=>by simp [fnm]
 | x :: l,i,h=>by
  simp only [fnm,List.any_cons]
  split
  ·rename_i hc
   simp [hc,h]
  ·rename_i hc
   rw [x1o s l (i + 1) (by omega)]
   simp [hc]
section
variable (h75:Ct Tryz.B.c0 75 R75)
include h75
theorem c27:Cts Tryz.BS [(72,R72),(75,R75),(76,R76)]:=(((Cts.nil Tryz.BS).cons (g:=76) w75).cons (g:=75) h75).cons (g:=72) w76
section
variable {rs:List Rul} (tk:Tok) (hw:z1h rs) {Q:CR→Prop}
include hw
set_option maxHeartbeats 4000000 in
theorem w4q {i:Nat} {x:Rul} (hx:rs[i]? = some x) (hQ:Q (rI (z5j (rs.take i) (rs.drop i))))
  (next:Q (rI (z5j (rs.take (i + 1)) (rs.drop (i + 1))))→z0l Tryz.X27 (cd PP 27 [1,1,0,1,0,0]) ([X,.ptr 0 0,X,X,X,X,X,X,X,X,.vs (z0c rs) rs.length tk,I rs.length,I (i + 1:Nat)]++List.replicate 46 X) ⟨[some (.cells [.vs (z0c rs) rs.length tk] 25)],[],[]⟩ (z0d 0 (z0i Tryz.X27 (cd PP 27 [1,1,1]) (z0f Tryz.X27 27 Q)))) :
  z0k Tryz.X27 (cd PP 27 [1,1,0,1,0,0,1,1,0,0,1]) ([X,.ptr 0 0,X,I i,.ptr 1 0,X,X,X,X,X,.vs (z0c rs) rs.length tk,I rs.length,I i]++List.replicate 46 X) ⟨[some (.cells [.vs (z0c rs) rs.length tk] 25),some (.cells (z1d x) 73)],[],[]⟩ (z0d 1 (z0i Tryz.X27 (cd PP 27 [1,1,0,1,0,0,1,1,1]) (z0r Tryz.X27 (cd PP 27 [1,1,0,1,0,0]) (z0d 0 (z0i Tryz.X27 (cd PP 27 [1,1,1]) (z0f Tryz.X27 27 Q)))))):=by
 have hlen:=hw.1
 have hwx:=hw.2 x (List.mem_of_getElem? hx)
 have hlt:i < rs.length:=(List.getElem?_eq_some_iff.1 hx).1
 obtain ⟨x',hx',hdr⟩:=z1p hlt
 rw [hx] at hx'
 cases hx'
 have htk:rs.take (i + 1) = rs.take i++[x]:=by rw [List.take_add_one,hx]; rfl
 rw [hdr] at hQ
 rw [htk] at next
 refine z4e Tryz.bsok (c27 h75) ((w6m _ _ _ tk x Q).mpr ⟨hwx.2.1,?_⟩)
 simp only [Nat.sub_zero]
 rw [y6s,z0j z0u,x1o _ _ 0 (by omega),y92,z0j (fun _ _=>z1a _ _),z0j (fun _ _=>z1a _ _)]
 refine z0h (fun h=>?_) (fun h=>z0b (by simp; omega) ⟨⟨⟨_,rfl,by simp; omega,by simp; omega⟩,z19 0 _,z7v 0 _⟩,⟨rfl,?_⟩,?_⟩)
 ·simpa [z5j,show z1s x.name = false by simpa using h] using hQ
 ·simp [z4j,y1h,z0t,y3s,z7c,y9m]
 have h:z1s x.name = true:=by simpa using h
 refine z0h (fun h1=>?_) (fun h1=>?_)
 ·simpa only [z5j,h,h1,if_true,Bool.true_eq_false,if_false] using hQ
 simp only [z5j,h,h1,Bool.true_eq_false,Bool.false_eq_true,if_false] at hQ
 refine z0h (fun h2=>?_) (fun h2=>z0h (fun h3=>?_) (fun h3=>z0h (fun h4=>?_) (fun h4=>z0h (fun h5=>?_) (fun h5=>⟨⟨_,rfl,hwx.1⟩,?_⟩))))
 case refine_1 | refine_2 | refine_3 | refine_4 =>
  have:z2h x = false:=by simp [z2h] at *; omega
  simpa only [this,if_true] using hQ
 have hr:z2h x = true:=by simp [z2h] at *; omega
 simp only [hr,Bool.true_eq_false,if_false] at hQ
 refine z0h (fun h6=>?_) (fun h6=>⟨⟨_,rfl,hwx.1⟩,z0h (fun h7=>?_) (fun h7=>?_)⟩)
 ·simpa [show z4h x.t = false by simpa using h6] using hQ
 ·simpa [show z4h x.t = true by simpa using h6,show shT x.t = false by simpa using h7] using hQ
 ·have hq:Q (rI (z5j (rs.take i++[x]) (rs.drop (i + 1)))):=by
   simpa [show z4h x.t = true by simpa using h6,show shT x.t = true by simpa using h7] using hQ
  refine z0b (by simp [noHL,noH,z0t]) (z0b (y6x tk 1) ?_)
  rw [z09 (x:=(i:Int) + 1) (by omega) (by omega)]
  exact next hq
theorem w4p:∀ (d i:Nat),rs.length - i = d→i ≤ rs.length→Q (rI (z5j (rs.take i) (rs.drop i))) →
  z0l Tryz.X27 (cd PP 27 [1,1,0,1,0,0]) ([X,.ptr 0 0,X,X,X,X,X,X,X,X,.vs (z0c rs) rs.length tk,I rs.length,I i]++List.replicate 46 X) ⟨[some (.cells [.vs (z0c rs) rs.length tk] 25)],[],[]⟩ (z0d 0 (z0i Tryz.X27 (cd PP 27 [1,1,1]) (z0f Tryz.X27 27 Q))):=by
 intro d
 induction d with
 | zero =>
  intro i hd hi hQ
  have hi':i = rs.length:=by omega
  subst hi'
  refine z1b Tryz.bsok (c27 h75) ((w0h _ _ _ tk Q).mpr (z0p (by simp) ?_))
  simpa [z5j] using hQ
 | succ d ih =>
  intro i hd hi hQ
  have hlt:i < rs.length:=by omega
  obtain ⟨x,hx,hdr⟩:=z1p hlt
  refine z1b Tryz.bsok (c27 h75) ((w0h _ _ _ tk Q).mpr (z0b (by simp; omega) (z0b (by simpa using hlt) (z0b (by simp [z02]) (z0b (by have:=z03 (z02 rs) hlt; simpa using this) ?_)))))
  rw [z4u hx,y2s]
  refine z0b (z4s x) (z0b (by simp [noHL,noH,z0t]) (z0b (y8u tk 2 x) ?_))
  exact w4q h75 tk hw hx hQ fun hq=>ih (i + 1) (by omega) (by omega) hq
end
set_option maxHeartbeats 2000000 in
theorem x90:Ct Tryz.B.c0 27 R27:=Ct.of_wp (B:=Tryz.BS) (lm:=w1i) (ct:=[6]) (sm:=[(4,1),(6,2)]) Tryz.bsok (c27 h75) ⟨_,_,Tryz.func27,rfl⟩ fun args D r hR hD=>by
 unfold R27 at hR
 split at hR <;> cases hR
 rename_i tk
 obtain ⟨rs,rfl,rfl,hw⟩:=hD
 refine ⟨by simp [noHL,noH,z0t],?_⟩
 rw [show z0e 0 [AV.agg [.vs (z0c rs) rs.length tk]] = [AV.agg [.vs (z0c rs) rs.length (tk.scrub 0)]] by simp [z0e,scrub,z1f],z0j z0u]
 refine (v27 _ _ _ _).mpr (z0h (fun h=>?_) (fun h=>z0b (by simp [noHL,noH,z0t]) (z0b (y6x _ 1) ?_)))
 ·have h:rs.length > 24:=by simp at h; omega
  simp [chk,h]
 ·have h:¬ rs.length > 24:=by simp at h; omega
  refine w4p h75 _ hw _ 0 rfl (Nat.zero_le _) ?_
  simp [chk,h]
end
end Go.Proofs
set_option maxRecDepth 100000
set_option linter.unusedVariables false
namespace Go.Proofs
open Go Go.Ev
mutual
def vz:Tst→Int→Int→Int→Bool × Int × Int
 | .mk _ _ _ _ of,k,c,d=>if c + 1 > 24 ∨ (if k > d then k else d) > 6 then (false,c + 1,if k > d then k else d) else vzL of (k + 1) (c + 1) (if k > d then k else d)
def vzL:List Tst→Int→Int→Int→Bool × Int × Int
 | [],_,c,d=>(true,c,d)
 | t :: l,k,c,d=>if (vz t k c d).1 = true then vzL l k (vz t k c d).2.1 (vz t k c d).2.2 else vz t k c d
end
noncomputable def R94:SpcP:=fun args hs=>match args,hs with
 | [.agg l,.int .i64 k,.ptr 1 0,.ptr 2 0,.ptr 3 0],[some (.cells tl tt),some (.cells [.int .i64 c] tc),some (.cells [.int .i64 d] td),some (.cells [.fn (.func 94) [] [.ptr 1 0,.ptr 2 0,.ptr 3 0]] tf)] =>
  some ((∃ t,l = z0m t∧wfT t)∧(tt = 71∧tc = 3∧td = 3∧tf = 132)∧(noHL 4 tl = true∧z0e 0 tl = tl)∧0 ≤ c∧c ≤ 24∧0 ≤ d∧d ≤ 6∧1 ≤ k∧k ≤ 7,
   rB (z0g z0m (fun t=>(vz t k c d).1) false l),[some (.cells tl 71),some (.cells [I (z0g z0m (fun t=>(vz t k c d).2.1) 0 l)] 3),some (.cells [I (z0g z0m (fun t=>(vz t k c d).2.2) 0 l)] 3),some (.cells [.fn (.func 94) [] [.ptr 1 0,.ptr 2 0,.ptr 3 0]] 132)])
 | _,_=>none
def w1a:List (Nat × List Nat):=[(6,[1,4,22,23,24]),(11,[])]
noncomputable def Tryz.X94 (m:Nat):WCx:=(Tryz.B.hk 94 (z3c 4 (R94.below m))).wcxP 4 [] w1a [] [] [(6,4)]
theorem v94 (m:Nat) (op at' sd n k c d:Int) (tl l:List AV) (len:Nat) (Q:CR→List (Option HB)→Prop):wpS (Tryz.X94 m) 94 [.agg [U op,U at',U sd,I n,.vs l len .none],I k,.ptr 1 0,.ptr 2 0,.ptr 3 0] [some (.cells tl 71),some (.cells [I c] 3),some (.cells [I d] 3),some (.cells [.fn (.func 94) [] [.ptr 1 0,.ptr 2 0,.ptr 3 0]] 132)] Q =
 (cIf (decide (IntKind.i64.wrap (c + (1:Int)) > (24:Int))) (cIf ((List.take (Tryz.X94 m).bs (St.mk [some (HB.cells tl 71),some (HB.cells (z1y [I c] 0 [I (IntKind.i64.wrap (c + (1:Int)))]) 3),some (HB.cells (z1y [I d] 0 [I (if k > d then k else d)]) 3),some (HB.cells [AV.fn (Fn.func 94) [] [AV.ptr 1 0,AV.ptr 2 0,AV.ptr 3 0]] 132),some (HB.cells [U op,U at',U sd,I n,AV.vs l len Tok.none] 71)] [] [2,1]).hs).all (okBlk (Tryz.X94 m).bs)) (Q (CR.ret (Bo false)) [some (HB.cells (z0e 0 tl) 71),some (HB.cells [I (IntKind.i64.wrap (c + (1:Int)))] 3),some (HB.cells [I (if k > d then k else d)] 3),some (HB.cells [AV.fn (Fn.func 94) [] [AV.ptr 1 0,AV.ptr 2 0,AV.ptr 3 0]] 132)]) False) (cIf (decide ((if k > d then k else d) > (6:Int))) (cIf ((List.take (Tryz.X94 m).bs (St.mk [some (HB.cells tl 71),some (HB.cells (z1y [I c] 0 [I (IntKind.i64.wrap (c + (1:Int)))]) 3),some (HB.cells (z1y [I d] 0 [I (if k > d then k else d)]) 3),some (HB.cells [AV.fn (Fn.func 94) [] [AV.ptr 1 0,AV.ptr 2 0,AV.ptr 3 0]] 132),some (HB.cells [U op,U at',U sd,I n,AV.vs l len Tok.none] 71)] [] [2,1]).hs).all (okBlk (Tryz.X94 m).bs)) (Q (CR.ret (Bo false)) [some (HB.cells (z0e 0 tl) 71),some (HB.cells [I (IntKind.i64.wrap (c + (1:Int)))] 3),some (HB.cells [I (if k > d then k else d)] 3),some (HB.cells [AV.fn (Fn.func 94) [] [AV.ptr 1 0,AV.ptr 2 0,AV.ptr 3 0]] 132)]) False) (cIf (noHL 4 ([X,I k,X,X,AV.ptr 3 0,X,X,X,X,X,X,X,X,X,X,X,X,X,X,X,X,X,AV.vs l len Tok.none,I len,I 0]++List.replicate 10 X)) (cIf ([some (HB.cells tl 71),some (HB.cells (z1y [I c] 0 [I (IntKind.i64.wrap (c + (1:Int)))]) 3),some (HB.cells (z1y [I d] 0 [I (if k > d then k else d)]) 3),some (HB.cells [AV.fn (Fn.func 94) [] [AV.ptr 1 0,AV.ptr 2 0,AV.ptr 3 0]] 132)].all (okBlk 4)) (z0l (Tryz.X94 m) (cd (Tryz.X94 m).P 94 [1,1,1,1,0,1,0,0]) ([X,I k,X,X,AV.ptr 3 0,X,X,X,X,X,X,X,X,X,X,X,X,X,X,X,X,X,AV.vs l len Tok.none,I len,I 0]++List.replicate 10 X) (St.mk [some (HB.cells tl 71),some (HB.cells (z1y [I c] 0 [I (IntKind.i64.wrap (c + (1:Int)))]) 3),some (HB.cells (z1y [I d] 0 [I (if k > d then k else d)]) 3),some (HB.cells [AV.fn (Fn.func 94) [] [AV.ptr 1 0,AV.ptr 2 0,AV.ptr 3 0]] 132)] [] []) (z0d 0 (z0i (Tryz.X94 m) (cd (Tryz.X94 m).P 94 [1,1,1,1,1]) (z0s (Tryz.X94 m) 94 Q)))) False) False))):=by kernel_rfl
theorem x97 (m:Nat) (k c d:Int) (tl l:List AV) (len i:Nat) (Q:CR→List (Option HB)→Prop):wpC (Tryz.X94 m) (cd PP 94 [1,1,1,1,0,1,0,0]) ([X,I k,X,X,.ptr 3 0,X,X,X,X,X,X,X,X,X,X,X,X,X,X,X,X,X,.vs l len .none,I len,I i]++List.replicate 10 X) ⟨[some (.cells tl 71),some (.cells [I c] 3),some (.cells [I d] 3),some (.cells [.fn (.func 94) [] [.ptr 1 0,.ptr 2 0,.ptr 3 0]] 132)],[],[]⟩ (z0r (Tryz.X94 m) (cd PP 94 [1,1,1,1,0,1,0,0]) (z0d 0 (z0i (Tryz.X94 m) (cd PP 94 [1,1,1,1,1]) (z0s (Tryz.X94 m) 94 Q)))) =
 (cIf (decide ((↑i:Int) < (↑len:Int))) (cIf (decide (i < len)) (cIf (decide (len * 5 = l.length)) (cIf (decide (5 ≤ (List.drop (i * 5) l).length)) (cIf (like zT (el (List.drop (i * 5) l) 0 5)) ((((∃ (t:Tst),(elT (el (List.drop (i * 5) l) 0 5)) = z0m t∧wfT t)∧(71 = (71:TypeId)∧3 = (3:TypeId)∧3 = (3:TypeId)∧132 = (132:TypeId))∧(noHL 4 tl = true∧z0e 0 tl = tl)∧(0:Int) ≤ c∧c ≤ (24:Int)∧(0:Int) ≤ d∧d ≤ (6:Int)∧(1:Int) ≤ IntKind.i64.wrap (k + (1:Int))∧IntKind.i64.wrap (k + (1:Int)) ≤ (7:Int))∧z0o ([]++[AV.agg (elT (el (List.drop (i * 5) l) 0 5)),I (IntKind.i64.wrap (k + (1:Int)))]++[AV.ptr 1 0,AV.ptr 2 0,AV.ptr 3 0]) < m)∧(noHL 4 ([]++[AV.agg (elT (el (List.drop (i * 5) l) 0 5)),I (IntKind.i64.wrap (k + (1:Int)))]++[AV.ptr 1 0,AV.ptr 2 0,AV.ptr 3 0]) = true∧(List.take 4 (St.mk [some (HB.cells tl 71),some (HB.cells [I c] 3),some (HB.cells [I d] 3),some (HB.cells [AV.fn (Fn.func 94) [] [AV.ptr 1 0,AV.ptr 2 0,AV.ptr 3 0]] 132),some (HB.cells (z1y zT 0 (elT (el (List.drop (i * 5) l) 0 5))) 71)] [] [4]).hs).all (z1i 4) = true∧[some (HB.cells tl (71:TypeId)),some (HB.cells [I (z0g z0m (fun (t:Tst)=>(vz t (IntKind.i64.wrap (k + (1:Int))) c d).snd.fst) (0:Int) (elT (el (List.drop (i * 5) l) 0 5)))] (3:TypeId)),some (HB.cells [I (z0g z0m (fun (t:Tst)=>(vz t (IntKind.i64.wrap (k + (1:Int))) c d).snd.snd) (0:Int) (elT (el (List.drop (i * 5) l) 0 5)))] (3:TypeId)),some (HB.cells [AV.fn (Fn.func 94) [] [AV.ptr 1 0,AV.ptr 2 0,AV.ptr 3 0]] (132:TypeId))].length = 4∧4 ≤ (St.mk [some (HB.cells tl 71),some (HB.cells [I c] 3),some (HB.cells [I d] 3),some (HB.cells [AV.fn (Fn.func 94) [] [AV.ptr 1 0,AV.ptr 2 0,AV.ptr 3 0]] 132),some (HB.cells (z1y zT 0 (elT (el (List.drop (i * 5) l) 0 5))) 71)] [] [4]).hs.length)∧cIf (!z0g z0m (fun (t:Tst)=>(vz t (IntKind.i64.wrap (k + (1:Int))) c d).fst) false (elT (el (List.drop (i * 5) l) 0 5))) (cIf ((List.take (Tryz.X94 m).bs (St.mk [some (HB.cells tl 71),some (HB.cells [AV.int IntKind.i64 (z0g z0m (fun (t:Tst)=>(vz t (IntKind.i64.wrap (k + (1:Int))) c d).snd.fst) (0:Int) (elT (el (List.drop (i * 5) l) 0 5)))] 3),some (HB.cells [AV.int IntKind.i64 (z0g z0m (fun (t:Tst)=>(vz t (IntKind.i64.wrap (k + (1:Int))) c d).snd.snd) (0:Int) (elT (el (List.drop (i * 5) l) 0 5)))] 3),some (HB.cells [AV.fn (Fn.func 94) [] [AV.ptr 1 0,AV.ptr 2 0,AV.ptr 3 0]] 132),some (HB.cells (z1y zT 0 (elT (el (List.drop (i * 5) l) 0 5))) 71)] [] [3,2,1,0,4]).hs).all (okBlk (Tryz.X94 m).bs)) (Q (CR.ret (Bo false)) [some (HB.cells (z0e 0 tl) 71),some (HB.cells [AV.int IntKind.i64 (z0g z0m (fun (t:Tst)=>(vz t (IntKind.i64.wrap (k + (1:Int))) c d).snd.fst) (0:Int) (elT (el (List.drop (i * 5) l) 0 5)))] 3),some (HB.cells [AV.int IntKind.i64 (z0g z0m (fun (t:Tst)=>(vz t (IntKind.i64.wrap (k + (1:Int))) c d).snd.snd) (0:Int) (elT (el (List.drop (i * 5) l) 0 5)))] 3),some (HB.cells [AV.fn (Fn.func 94) [] [AV.ptr 1 0,AV.ptr 2 0,AV.ptr 3 0]] 132)]) False) (cIf (noHL 4 ([X,I k,X,X,AV.ptr 3 0,X,X,X,X,X,X,X,X,X,X,X,X,X,X,X,X,X,AV.vs l len Tok.none,I len,I (IntKind.i64.wrap ((↑i:Int) + (1:Int)))]++List.replicate 10 X)) (cIf ([some (HB.cells tl 71),some (HB.cells [AV.int IntKind.i64 (z0g z0m (fun (t:Tst)=>(vz t (IntKind.i64.wrap (k + (1:Int))) c d).snd.fst) (0:Int) (elT (el (List.drop (i * 5) l) 0 5)))] 3),some (HB.cells [AV.int IntKind.i64 (z0g z0m (fun (t:Tst)=>(vz t (IntKind.i64.wrap (k + (1:Int))) c d).snd.snd) (0:Int) (elT (el (List.drop (i * 5) l) 0 5)))] 3),some (HB.cells [AV.fn (Fn.func 94) [] [AV.ptr 1 0,AV.ptr 2 0,AV.ptr 3 0]] 132)].all (okBlk 4)) (z0l (Tryz.X94 m) (cd PP 94 [1,1,1,1,0,1,0,0]) ([X,I k,X,X,AV.ptr 3 0,X,X,X,X,X,X,X,X,X,X,X,X,X,X,X,X,X,AV.vs l len Tok.none,I len,I (IntKind.i64.wrap ((↑i:Int) + (1:Int)))]++List.replicate 10 X) (St.mk [some (HB.cells tl 71),some (HB.cells [AV.int IntKind.i64 (z0g z0m (fun (t:Tst)=>(vz t (IntKind.i64.wrap (k + (1:Int))) c d).snd.fst) (0:Int) (elT (el (List.drop (i * 5) l) 0 5)))] 3),some (HB.cells [AV.int IntKind.i64 (z0g z0m (fun (t:Tst)=>(vz t (IntKind.i64.wrap (k + (1:Int))) c d).snd.snd) (0:Int) (elT (el (List.drop (i * 5) l) 0 5)))] 3),some (HB.cells [AV.fn (Fn.func 94) [] [AV.ptr 1 0,AV.ptr 2 0,AV.ptr 3 0]] 132)] [] []) (z0d 0 (z0i (Tryz.X94 m) (cd PP 94 [1,1,1,1,1]) (z0s (Tryz.X94 m) 94 Q)))) False) False)) False) False) False) False) (cIf ((List.take (Tryz.X94 m).bs (St.mk [some (HB.cells tl 71),some (HB.cells [I c] 3),some (HB.cells [I d] 3),some (HB.cells [AV.fn (Fn.func 94) [] [AV.ptr 1 0,AV.ptr 2 0,AV.ptr 3 0]] 132)] [] []).hs).all (okBlk (Tryz.X94 m).bs)) (Q (CR.ret (Bo true)) [some (HB.cells (z0e 0 tl) 71),some (HB.cells [I c] 3),some (HB.cells [I d] 3),some (HB.cells [AV.fn (Fn.func 94) [] [AV.ptr 1 0,AV.ptr 2 0,AV.ptr 3 0]] 132)]) False)):=by kernel_rfl
end Go.Proofs
set_option maxRecDepth 100000
set_option linter.unusedVariables false
namespace Go.Proofs
open Go Go.Ev
mutual
theorem x7:∀ (t:Tst) (k c d:Int),0 ≤ c→0 ≤ d→(vz t k c d).1 = true→0 ≤ (vz t k c d).2.1∧(vz t k c d).2.1 ≤ 24∧0 ≤ (vz t k c d).2.2∧(vz t k c d).2.2 ≤ 6
 | .mk op at' sd n of,k,c,d,hc,hd,h=>by
  simp only [vz] at h ⊢
  have he:0 ≤ (if k > d then k else d):=by split <;> omega
  generalize (if k > d then k else d) = e at h he ⊢
  by_cases h1:c + 1 > 24 ∨ e > 6
  ·rw [if_pos h1] at h
   cases h
  ·rw [if_neg h1] at h ⊢
   exact x3p of _ _ _ (by omega) (by omega) he (by omega) h
theorem x3p:∀ (l:List Tst) (k c d:Int),0 ≤ c→c ≤ 24→0 ≤ d→d ≤ 6→(vzL l k c d).1 = true→0 ≤ (vzL l k c d).2.1∧(vzL l k c d).2.1 ≤ 24∧0 ≤ (vzL l k c d).2.2∧(vzL l k c d).2.2 ≤ 6
 | [],k,c,d,h1,h2,h3,h4,h=>⟨h1,h2,h3,h4⟩
 | t :: l,k,c,d,h1,h2,h3,h4,h=>by
  simp only [vzL] at h ⊢
  split
  ·rename_i hv
   rw [if_pos hv] at h
   obtain ⟨q1,q2,q3,q4⟩:=x7 t k c d h1 h3 hv
   exact x3p l k _ _ q1 q2 q3 q4 h
  ·rename_i hv
   rw [if_neg hv] at h
   exact absurd h hv
end
abbrev y2n (tl:List AV) (c d:Int):List (Option HB):=[some (.cells tl 71),some (.cells [I c] 3),some (.cells [I d] 3),some (.cells [.fn (.func 94) [] [.ptr 1 0,.ptr 2 0,.ptr 3 0]] 132)]
theorem y0k {tl:List AV} (h:noHL 4 tl = true) (c d:Int) (r:List (Option HB)):(List.take 4 (y2n tl c d++r)).all (okBlk 4) = true:=by
 simp [y2n,okBlk,noHB,noHL,noH,h]
theorem x6e {tl:List AV} (h:noHL 4 tl = true) (c d:Int) (r:List (Option HB)):(List.take 4 (y2n tl c d++r)).all (z1i 4) = true:=by
 simp [y2n,z1i,noHB,noHL,noH,h]
section
variable {m:Nat} (hB:BaseOk (Tryz.B.hk 94 (z3c 4 (R94.below m)))) {tl:List AV} (ht1:noHL 4 tl = true) (ht2:z0e 0 tl = tl) {of:List Tst} (hlen:of.length ≤ 9223372036854775807) (hwf:z6p of) (hsz:z0o (z0q of) + 5 < m) {k:Int} (hk1:1 ≤ k) (hk2:k ≤ 6) {Q:CR→List (Option HB)→Prop}
include hB ht1 ht2 hlen hwf hsz hk1 hk2
set_option maxHeartbeats 4000000 in
theorem x8e:∀ (n i:Nat) (c d:Int),of.length - i = n→i ≤ of.length→0 ≤ c→c ≤ 24→0 ≤ d→d ≤ 6→Q (rB (vzL (of.drop i) (k + 1) c d).1) (y2n tl (vzL (of.drop i) (k + 1) c d).2.1 (vzL (of.drop i) (k + 1) c d).2.2) →
  z0l (Tryz.X94 m) (cd PP 94 [1,1,1,1,0,1,0,0]) ([X,I k,X,X,.ptr 3 0,X,X,X,X,X,X,X,X,X,X,X,X,X,X,X,X,X,.vs (z0q of) of.length .none,I of.length,I i]++List.replicate 10 X) ⟨y2n tl c d,[],[]⟩ (z0d 0 (z0i (Tryz.X94 m) (cd PP 94 [1,1,1,1,1]) (z0s (Tryz.X94 m) 94 Q))):=by
 intro n
 induction n with
 | zero =>
  intro i c d hd hi q1 q2 q3 q4 hQ
  have hi':i = of.length:=by omega
  subst hi'
  refine z0n (z00 hB (Cts.nil _)) (z1c hB (Cts.nil _)) ((x97 m k c d tl _ _ _ Q).mpr (z0p (by simp) (z0b (y0k ht1 c d []) ?_)))
  rw [ht2]
  simpa [vzL] using hQ
 | succ n ih =>
  intro i c d hd hi q1 q2 q3 q4 hQ
  have hlt:i < of.length:=by omega
  obtain ⟨x,hx,hdr⟩:=z1p hlt
  rw [hdr] at hQ
  simp only [vzL] at hQ
  have hs:=z5y hx
  refine z0n (z00 hB (Cts.nil _)) (z1c hB (Cts.nil _)) ((x97 m k c d tl _ _ _ Q).mpr (z0b (by simp; omega) (z0b (by simpa using hlt) (z0b (by simp [z1n]) (z0b (by have:=z03 (z1n of) hlt; simpa using this) ?_)))))
  rw [z6x hx,z6m]
  rw [z09 (x:=k + 1) (by omega) (by omega),z09 (x:=(i:Int) + 1) (by omega) (by omega)]
  simp only [z0j (fun _ _=>z1a _ _)]
  refine z0b (z2w x) ⟨⟨⟨⟨x,rfl,z6u hwf hx⟩,⟨trivial,trivial,trivial,trivial⟩,⟨ht1,ht2⟩,q1,q2,q3,q4,by omega,by omega⟩,?_⟩,⟨?_,x6e ht1 c d _,rfl,by simp⟩,?_⟩
  ·simp only [List.nil_append,List.cons_append,z0o,z2q]
   omega
  ·simp [noHL,noH,z1k]
  refine z0h (fun h=>z0b (y0k ht1 _ _ [some (HB.cells (z0m x) 71)]) ?_) (fun h=>z0b ?_ (z0b (y0k ht1 _ _ []) ?_))
  ·have h:(vz x (k + 1) c d).1 = false:=by simpa using h
   rw [ht2]
   rw [if_neg (by rw [h]; simp),h] at hQ
   exact hQ
  ·simp [noHL,noH,z19]
  ·have h:(vz x (k + 1) c d).1 = true:=by simpa using h
   rw [if_pos h] at hQ
   obtain ⟨r1,r2,r3,r4⟩:=x7 x (k + 1) c d q1 q3 h
   exact ih (i + 1) _ _ (by omega) (by omega) r1 r2 r3 r4 hQ
end
set_option maxHeartbeats 4000000 in
theorem ct94:CtP Tryz.B.c0 94 4 R94:=CtP.of_rec ⟨_,_,Tryz.func94,rfl⟩ fun m args hs D r hs' hr hR hD hl hm=>by
 unfold R94 at hR
 split at hR <;> cases hR
 rename_i l k tl tt c tc d td tf
 obtain ⟨⟨⟨op,at',sd,n,of⟩,rfl,hw⟩,⟨rfl,rfl,rfl,rfl⟩,⟨ht1,ht2⟩,q1,q2,q3,q4,q5,q6⟩:=hD
 simp only [wfT] at hw
 have hB:BaseOk (Tryz.B.hk 94 (z3c 4 (R94.below m))):=Tryz.bok.hk (hr.hook Tryz.gtpB)
 have hsz:z0o (z0q of) + 5 < m:=by simp only [z0o,z2q,z0m] at hm; omega
 rw [show z0e 0 [AV.agg (z0m (.mk op at' sd n of)),I k,.ptr 1 0,.ptr 2 0,.ptr 3 0] = [AV.agg (z0m (.mk op at' sd n of)),I k,.ptr 1 0,.ptr 2 0,.ptr 3 0] by simp [z0e,scrub,z3q]]
 rw [show List.map (Option.map (z06 0)) (y2n tl c d) = y2n tl c d by simp [y2n,z06,z0e,scrub,ht2]]
 simp only [z0j (fun _ _=>z1a _ _)]
 refine z4p (B:=Tryz.B.hk 94 (z3c 4 (R94.below m))) (lm:=w1a) (tp:=[]) (ct:=[]) (sm:=[(6,4)]) hB (Cts.nil _) rfl ((v94 m op at' sd n k c d tl _ _ _).mpr ?_)
 rw [z09 (x:=c + 1) (by omega) (by omega)]
 simp only [vz]
 have he:(if k > d then k else d) = k∧d < k ∨ (if k > d then k else d) = d∧k ≤ d:=by split <;> omega
 generalize (if k > d then k else d) = e at he ⊢
 refine z0h (fun h=>z0b (y0k ht1 _ _ [some (HB.cells (z0m (.mk op at' sd n of)) 71)]) ?_) (fun h=>z0h (fun h2=>z0b (y0k ht1 _ _ [some (HB.cells (z0m (.mk op at' sd n of)) 71)]) ?_) (fun h2=>z0b (by simp [noHL,noH,z19]) (z0b (y0k ht1 _ _ []) ?_)))
 ·rw [ht2,if_pos (.inl (by simpa using h))]
  exact ⟨rfl,rfl⟩
 ·rw [ht2,if_pos (.inr (by simpa using h2))]
  exact ⟨rfl,rfl⟩
 ·have h:¬ (c + 1 > 24):=by simpa using h
  have h2:¬ (e > 6):=by simpa using h2
  rw [if_neg (by omega)]
  exact x8e hB ht1 ht2 hw.2.2.2.2.2.2.2.2.1 hw.2.2.2.2.2.2.2.2.2 hsz (by omega) (by omega) _ 0 (c + 1) e rfl (Nat.zero_le _) (by omega) (by omega) (by omega) (by omega) ⟨rfl,rfl⟩
end Go.Proofs
