/- Contracts of functions of the program and of the reference. -/
import Derived.Test.YtljjkomdibkjpaaGreatDoorK19
import Derived.Test.YtljjkomdibkjpaaGreatDoorK11
set_option linter.unusedVariables false
set_option linter.unusedSimpArgs false
set_option maxRecDepth 100000
set_option linter.unusedVariables false
-- elP C19
namespace Go.Proofs
open Go Go.Ev
def y78 (rs:List Rul):List Nat:=(List.range rs.length).filter fun i=>!(z2l rs).getD i false
noncomputable def z4b (rs:List Rul):List Nat × Int:=if chk rs = 0 then (y78 rs,0) else ([],chk rs)
noncomputable def R47:Spc:=fun args=>match args with
 | [.agg [.vs l len .none]]=>some (∃ rs,l = z0c rs∧len = rs.length∧z1h rs,.ret (.tup [.vs (encD (z0g z0c z4b ([],0) l).1) (z0g z0c z4b ([],0) l).1.length (tkZ (z0g z0c z4b ([],0) l).1),I (z0g z0c z4b ([],0) l).2]))
 | _=>none
def w7p:List (Nat × List Nat):=[(6,[5,14,15,16]),(11,[5])]
noncomputable def Tryz.X47:WCx:=Tryz.B.wcx [(27,R27),(89,R89)] w7p [] [] [(6,0)]
theorem v47 (l:List AV) (len:Nat) (Q:CR→Prop):wpF Tryz.X47 47 [.agg [.vs l len .none]] Q =
 ((∃ (rs:List Rul),l = z0c rs∧len = rs.length∧z1h rs)∧cIf (z0g z0c chk (0:Int) l != (0:Int)) (Q (CR.ret (AV.tup [AV.vs [] 0 Tok.zero,I (z0g z0c chk (0:Int) l)]))) (y4h l len∧cIf (noHL 0 ([X,X,X,X,X,AV.vs [] 0 Tok.zero,X,X,X,X,X,X,X,X,AV.vs (z07 (z0g z0c z2l [] l)) len Tok.none,I len,I 0]++List.replicate 12 X)) (z0l Tryz.X47 (cd Tryz.X47.P 47 [1,1,1,0,1,0,0]) ([X,X,X,X,X,AV.vs [] 0 Tok.zero,X,X,X,X,X,X,X,X,AV.vs (z07 (z0g z0c z2l [] l)) len Tok.none,I len,I 0]++List.replicate 12 X) (St.mk [] [] []) (z0d 0 (z0i Tryz.X47 (cd Tryz.X47.P 47 [1,1,1,1]) (z0f Tryz.X47 47 Q)))) False)):=by kernel_rfl
theorem w6g (al:List AV) (n:Nat) (i:Int) (Q:CR→Prop):wpC Tryz.X47 (cd PP 47 [1,1,1,0,1,0,0]) ([X,X,X,X,X,.vs [] 0 .zero,X,X,X,X,X,X,X,X,.vs al n .none,I n,I i]++List.replicate 12 X) ⟨[],[],[]⟩ (z0r Tryz.X47 (cd PP 47 [1,1,1,0,1,0,0]) (z0d 0 (z0i Tryz.X47 (cd PP 47 [1,1,1,1]) (z0f Tryz.X47 47 Q)))) =
 (cIf (decide (i < (↑n:Int))) (cIf (decide ((0:Int) ≤ i)) (cIf (decide (i.toNat < n)) (cIf (decide (n * 1 = al.length)) (cIf (decide (0 < (List.drop (i.toNat * 1) al).length)) (cIf (z1g (AV.ofVal (Value.bool false)) ((List.drop (i.toNat * 1) al).getD 0 X)) (cIf (!cB (List.drop (i.toNat * 1) al) 0) (cIf (noHL 0 ([X,X,X,X,X,AV.vs [I i] 1 (Tok.own 1),X,X,X,X,X,X,X,X,AV.vs al n Tok.none,I n,I (IntKind.i64.wrap (i + (1:Int)))]++List.replicate 12 X)) (z0l Tryz.X47 (cd PP 47 [1,1,1,0,1,0,0]) ([X,X,X,X,X,AV.vs [I i] 1 (Tok.own 1),X,X,X,X,X,X,X,X,AV.vs al n Tok.none,I n,I (IntKind.i64.wrap (i + (1:Int)))]++List.replicate 12 X) (St.mk [] [(1,1,3),(1,1,3)] []) (z0d 0 (z0i Tryz.X47 (cd PP 47 [1,1,1,1]) (z0f Tryz.X47 47 Q)))) False) (cIf (noHL 0 ([X,X,X,X,X,AV.vs [] 0 Tok.zero,X,X,X,X,X,X,X,X,AV.vs al n Tok.none,I n,I (IntKind.i64.wrap (i + (1:Int)))]++List.replicate 12 X)) (z0l Tryz.X47 (cd PP 47 [1,1,1,0,1,0,0]) ([X,X,X,X,X,AV.vs [] 0 Tok.zero,X,X,X,X,X,X,X,X,AV.vs al n Tok.none,I n,I (IntKind.i64.wrap (i + (1:Int)))]++List.replicate 12 X) (St.mk [] [] []) (z0d 0 (z0i Tryz.X47 (cd PP 47 [1,1,1,1]) (z0f Tryz.X47 47 Q)))) False)) False) False) False) False) False) (Q (CR.ret (AV.tup [AV.vs [] 0 Tok.zero,I 0])))):=by kernel_rfl
theorem w6h (al cs:List AV) (n m k:Nat) (T:List (Nat × (Nat × Nat))) (i:Int) (Q:CR→Prop):wpC Tryz.X47 (cd PP 47 [1,1,1,0,1,0,0]) ([X,X,X,X,X,.vs cs m (.own k),X,X,X,X,X,X,X,X,.vs al n .none,I n,I i]++List.replicate 12 X) ⟨[],T,[]⟩ (z0r Tryz.X47 (cd PP 47 [1,1,1,0,1,0,0]) (z0d 0 (z0i Tryz.X47 (cd PP 47 [1,1,1,1]) (z0f Tryz.X47 47 Q)))) =
 (cIf (decide (i < (↑n:Int))) (cIf (decide ((0:Int) ≤ i)) (cIf (decide (i.toNat < n)) (cIf (decide (n * 1 = al.length)) (cIf (decide (0 < (List.drop (i.toNat * 1) al).length)) (cIf (z1g (AV.ofVal (Value.bool false)) ((List.drop (i.toNat * 1) al).getD 0 X)) (cIf (!cB (List.drop (i.toNat * 1) al) 0) (cIf (decide ((m + 1) * 8 ≤ 140737488355328)) (cIf (decide (m + 1 ≤ 140737488355328)) (cIf (decide (cs.length = m * 1)) (cIf (decide ((T++[(1,1,3)])[k]? = some (m,1,3))) (cIf (noHL 0 ([X,X,X,X,X,AV.vs (cs++[I i]) (m + 1) (Tok.own k),X,X,X,X,X,X,X,X,AV.vs al n Tok.none,I n,I (IntKind.i64.wrap (i + (1:Int)))]++List.replicate 12 X)) (z0l Tryz.X47 (cd PP 47 [1,1,1,0,1,0,0]) ([X,X,X,X,X,AV.vs (cs++[I i]) (m + 1) (Tok.own k),X,X,X,X,X,X,X,X,AV.vs al n Tok.none,I n,I (IntKind.i64.wrap (i + (1:Int)))]++List.replicate 12 X) (St.mk [] ((T++[(1,1,3)]).set k (m + 1,1,3)) []) (z0d 0 (z0i Tryz.X47 (cd PP 47 [1,1,1,1]) (z0f Tryz.X47 47 Q)))) False) False) False) False) False) (cIf (noHL 0 ([X,X,X,X,X,AV.vs cs m (Tok.own k),X,X,X,X,X,X,X,X,AV.vs al n Tok.none,I n,I (IntKind.i64.wrap (i + (1:Int)))]++List.replicate 12 X)) (z0l Tryz.X47 (cd PP 47 [1,1,1,0,1,0,0]) ([X,X,X,X,X,AV.vs cs m (Tok.own k),X,X,X,X,X,X,X,X,AV.vs al n Tok.none,I n,I (IntKind.i64.wrap (i + (1:Int)))]++List.replicate 12 X) (St.mk [] T []) (z0d 0 (z0i Tryz.X47 (cd PP 47 [1,1,1,1]) (z0f Tryz.X47 47 Q)))) False)) False) False) False) False) False) (z0f Tryz.X47 47 Q EX.ret [X,X,AV.vs cs m (Tok.own k),I 0,X,AV.vs cs m (Tok.own k),X,X,X,X,X,X,X,X,X,X,X,X,X,X,X,X,X,X,X,X,X,X,AV.vs cs m (Tok.own k)] (St.mk [] T []))):=by kernel_rfl
end Go.Proofs
set_option maxRecDepth 100000
set_option linter.unusedVariables false
namespace Go.Proofs
open Go Go.Ev
def y54 (o:List Bool):List Nat:=(List.range o.length).filter fun i=>!o.getD i false
theorem z9y (rs:List Rul):(z2l rs).length = rs.length:=by simp [z2l]
theorem x1s (rs:List Rul):y78 rs = y54 (z2l rs):=by unfold y78 y54; rw [z9y]
theorem x2n (cs:List AV) (m:Nat) (tk:Tok) (o:List Bool) (n:Nat) (i:Int) (hcs:noHL 0 cs = true):noHL 0 ([X,X,X,X,X,AV.vs cs m tk,X,X,X,X,X,X,X,X,AV.vs (z07 o) n Tok.none,I (n:Int),I i]++List.replicate 12 X) = true:=by
 refine z6j ?_ (z2e 0 12)
 simp [noHL,noH,hcs,z5c]
theorem c47:Cts Tryz.B [(27,R27),(89,R89)]:=((Cts.nil _).cons w72).cons (x90 x9y)
section
variable {o:List Bool} (ho:o.length ≤ 1000) {Q:CR→Prop}
include ho
theorem v05:∀ (d i:Nat) (acc:List Nat) (k:Nat) (T:List (Nat × (Nat × Nat))),o.length - i = d→i ≤ o.length→acc.length ≤ i→T[k]? = some (acc.length,1,3)→Q (.ret (.tup [.vs (encD (acc++((List.range o.length).drop i).filter fun i=>!o.getD i false)) (acc++((List.range o.length).drop i).filter fun i=>!o.getD i false).length .none,I 0])) →
  z0l Tryz.X47 (cd PP 47 [1,1,1,0,1,0,0]) ([X,X,X,X,X,.vs (encD acc) acc.length (.own k),X,X,X,X,X,X,X,X,.vs (z07 o) o.length .none,I o.length,I i]++List.replicate 12 X) ⟨[],T,[]⟩ (z0d 0 (z0i Tryz.X47 (cd PP 47 [1,1,1,1]) (z0f Tryz.X47 47 Q))):=by
 intro d
 induction d with
 | zero =>
  intro i acc k T hd hi ha hT hQ
  have hi':i = o.length:=by omega
  subst hi'
  rw [List.drop_of_length_le (by simp),List.filter_nil,List.append_nil] at hQ
  refine z0n (C:=Tryz.X47) (z0y Tryz.bok c47) (z1e Tryz.bok c47) ?_
  rw [w6h]
  refine z0p (decide_eq_false (by omega)) ?_
  exact x9q _ _ acc acc.length k Q hQ
 | succ d ih =>
  intro i acc k T hd hi ha hT hQ
  have hlt:i < o.length:=by omega
  rw [z5e hlt] at hQ
  obtain ⟨t1,t2⟩:=y80 (1,1,3) (acc.length + 1,1,3) hT
  refine z0n (C:=Tryz.X47) (z0y Tryz.bok c47) (z1e Tryz.bok c47) ?_
  rw [w6h,wA1 (a:=i) (by omega),x0t hlt,y77]
  refine z0b (decide_eq_true (by omega)) (z0b (z0z _) (z0b (row_in hlt) (z0b (decide_eq_true (by rw [z8n]; omega)) (z0b (y6t hlt) (z0b (x0s hlt) ?_)))))
  refine z0h (fun h=>?_) (fun h=>?_)
  ·rw [List.filter_cons_of_pos (p:=fun i=>!o.getD i false) h,List.append_cons] at hQ
   refine z0b (decide_eq_true (by omega)) (z0b (decide_eq_true (by omega)) (z0b (decide_eq_true (by rw [z4v]; omega)) (z0b (decide_eq_true t1) (z0b (x2n _ _ _ _ _ _ (z1t _ _)) ?_))))
   have:=ih (i + 1) (acc++[i]) k ((T++[(1,1,3)]).set k (acc.length + 1,1,3)) (by omega) (by omega) (by simp; omega) (by rw [t2,List.length_append]; rfl) hQ
   rw [List.length_append] at this
   exact this
  ·rw [List.filter_cons_of_neg (by rw [h]; simp)] at hQ
   exact z0b (x2n _ _ _ _ _ _ (z1t _ _)) (ih (i + 1) acc k T (by omega) (by omega) (by omega) hT hQ)
theorem v04:∀ (d i:Nat),o.length - i = d→i ≤ o.length→Q (.ret (.tup [.vs (encD (((List.range o.length).drop i).filter fun i=>!o.getD i false)) (((List.range o.length).drop i).filter fun i=>!o.getD i false).length (tkZ (((List.range o.length).drop i).filter fun i=>!o.getD i false)),I 0])) →
  z0l Tryz.X47 (cd PP 47 [1,1,1,0,1,0,0]) ([X,X,X,X,X,.vs [] 0 .zero,X,X,X,X,X,X,X,X,.vs (z07 o) o.length .none,I o.length,I i]++List.replicate 12 X) ⟨[],[],[]⟩ (z0d 0 (z0i Tryz.X47 (cd PP 47 [1,1,1,1]) (z0f Tryz.X47 47 Q))):=by
 intro d
 induction d with
 | zero =>
  intro i hd hi hQ
  have hi':i = o.length:=by omega
  subst hi'
  rw [List.drop_of_length_le (by simp),List.filter_nil] at hQ
  refine z0n (C:=Tryz.X47) (z0y Tryz.bok c47) (z1e Tryz.bok c47) ?_
  rw [w6g]
  exact z0p (decide_eq_false (by omega)) hQ
 | succ d ih =>
  intro i hd hi hQ
  have hlt:i < o.length:=by omega
  rw [z5e hlt] at hQ
  refine z0n (C:=Tryz.X47) (z0y Tryz.bok c47) (z1e Tryz.bok c47) ?_
  rw [w6g,wA1 (a:=i) (by omega),x0t hlt]
  refine z0b (decide_eq_true (by omega)) (z0b (z0z _) (z0b (row_in hlt) (z0b (decide_eq_true (by rw [z8n]; omega)) (z0b (y6t hlt) (z0b (x0s hlt) ?_)))))
  refine z0h (fun h=>?_) (fun h=>?_)
  ·rw [List.filter_cons_of_pos (p:=fun i=>!o.getD i false) h,y73] at hQ
   refine z0b (x2n _ _ _ _ _ _ rfl) ?_
   exact v05 ho d (i + 1) [i] 1 [(1,1,3),(1,1,3)] (by omega) (by omega) (by simp) rfl hQ
  ·rw [List.filter_cons_of_neg (by rw [h]; simp)] at hQ
   exact z0b (x2n _ _ _ _ _ _ rfl) (ih (i + 1) (by omega) (by omega) hQ)
end
theorem v1j:Ct Tryz.B.c0 47 R47:=Ct.of_wp (l:=[(27,R27),(89,R89)]) (lm:=w7p) (tp:=[]) (ct:=[]) (sm:=[(6,0)]) Tryz.bok c47 ⟨_,_,Tryz.func47,rfl⟩ fun args D r hR hD=>by
 unfold R47 at hR
 split at hR <;> cases hR
 obtain ⟨rs,rfl,rfl,hw⟩:=hD
 refine ⟨by simp [noHL,noH,z0t],?_⟩
 rw [show z0e 0 [AV.agg [.vs (z0c rs) rs.length .none]] = [AV.agg [.vs (z0c rs) rs.length .none]] by simp [z0e,scrub,z1f,Tok.scrub],z0j z0u]
 show wpF Tryz.X47 47 _ _
 rw [v47,z0j z0u,z0j z0u]
 unfold z4b
 refine ⟨⟨rs,rfl,rfl,hw⟩,z0h (fun h=>?_) (fun h=>?_)⟩
 ·have h:¬ chk rs = 0:=by simpa using h
  rw [if_neg h]; rfl
 ·have h:chk rs = 0:=by simpa using h
  obtain ⟨h1,h2,_⟩:=z8x hw h
  rw [if_pos h,x1s]
  refine ⟨⟨rs,rfl,rfl,h1,h2⟩,z0b (x2n _ _ _ _ _ _ rfl) ?_⟩
  have:=v04 (o:=z2l rs) (Q:=fun r'=>r' = .ret (.tup [.vs (encD (y54 (z2l rs))) (y54 (z2l rs)).length (tkZ (y54 (z2l rs))),I 0])) (by have:=h1.2.1; rw [z9y]; omega) rs.length 0 (by rw [z9y]; omega) (by omega) rfl
  rw [z9y] at this
  exact this
end Go.Proofs
set_option maxRecDepth 100000
set_option linter.unusedVariables false
-- elP C19
namespace Go.Proofs
open Go Go.Ev
end Go.Proofs
set_option maxRecDepth 100000
set_option linter.unusedVariables false
namespace Go.Proofs
open Go Go.Ev
section
variable (rk:Nat→Int) (th bk:Nat→Bool)
theorem x6n (r:Int):∀ (l:List Nat),(∀ j ∈ l,rk j ≤ r)→l.Pairwise (fun j i=>rk i ≤ rk j)→∀ k,k ∈ z8e rk th bk l r ↔ k ∈ l∧(th k || bk k) = true∧rk k = r
 | [],_,_,k=>by simp [z8e]
 | i :: l,h,hs,k=>by
  rw [List.pairwise_cons] at hs
  have hi:=h i List.mem_cons_self
  simp only [z8e]
  by_cases c:r > rk i
  ·rw [if_pos c]
   refine ⟨fun h=>by simp at h,fun ⟨h1,_,h3⟩=>?_⟩
   rcases List.mem_cons.1 h1 with rfl | h1
   ·omega
   ·have:=hs.1 k h1; omega
  ·rw [if_neg c]
   have he:rk i = r:=by omega
   have ih:=x6n r l (fun j hj=>h j (List.mem_cons_of_mem _ hj)) hs.2 k
   by_cases f:(!th i && !bk i) = true
   ·rw [if_pos f,ih]
    have f':(th i || bk i) = false:=by
     simp only [Bool.and_eq_true,Bool.not_eq_true'] at f
     rw [f.1,f.2]; rfl
    refine ⟨fun ⟨a,b,c⟩=>⟨List.mem_cons_of_mem _ a,b,c⟩,fun ⟨a,b,c⟩=>?_⟩
    rcases List.mem_cons.1 a with rfl | a
    ·rw [f'] at b; cases b
    ·exact ⟨a,b,c⟩
   ·rw [if_neg f,he,List.mem_cons,ih]
    have f':(th i || bk i) = true:=by
     cases h1:th i <;> cases h2:bk i <;> simp_all
    constructor
    ·rintro (rfl | ⟨a,b,c⟩)
     ·exact ⟨List.mem_cons_self,f',he⟩
     ·exact ⟨List.mem_cons_of_mem _ a,b,c⟩
    ·rintro ⟨a,b,c⟩
     rcases List.mem_cons.1 a with rfl | a
     ·exact .inl rfl
     ·exact .inr ⟨a,b,c⟩
theorem w1q (hp:∀ i,0 < rk i):∀ (l:List Nat),l.Pairwise (fun j i=>rk i ≤ rk j)→∀ k,k ∈ z8e rk th bk l 0 ↔ k ∈ l∧(th k || bk k) = true∧∀ j ∈ l,(th j || bk j) = true→rk j ≤ rk k
 | [],_,k=>by simp [z8e]
 | i :: l,hs,k=>by
  rw [List.pairwise_cons] at hs
  simp only [z8e]
  have:=hp i
  rw [if_neg (by omega)]
  have ih:=w1q hp l hs.2 k
  by_cases f:(!th i && !bk i) = true
  ·rw [if_pos f,ih]
   have f':(th i || bk i) = false:=by
    simp only [Bool.and_eq_true,Bool.not_eq_true'] at f
    rw [f.1,f.2]; rfl
   constructor
   ·rintro ⟨a,b,c⟩
    refine ⟨List.mem_cons_of_mem _ a,b,fun j hj hf=>?_⟩
    rcases List.mem_cons.1 hj with rfl | hj
    ·rw [f'] at hf; cases hf
    ·exact c j hj hf
   ·rintro ⟨a,b,c⟩
    rcases List.mem_cons.1 a with rfl | a
    ·rw [f'] at b; cases b
    ·exact ⟨a,b,fun j hj hf=>c j (List.mem_cons_of_mem _ hj) hf⟩
  ·rw [if_neg f,List.mem_cons,x6n rk th bk (rk i) l hs.1 hs.2 k]
   have f':(th i || bk i) = true:=by
    cases h1:th i <;> cases h2:bk i <;> simp_all
   constructor
   ·rintro (rfl | ⟨a,b,c⟩)
    ·refine ⟨List.mem_cons_self,f',fun j hj _=>?_⟩
     rcases List.mem_cons.1 hj with rfl | hj
     ·exact Int.le_refl _
     ·exact hs.1 j hj
    ·refine ⟨List.mem_cons_of_mem _ a,b,fun j hj _=>?_⟩
     rcases List.mem_cons.1 hj with rfl | hj
     ·omega
     ·have:=hs.1 j hj; omega
   ·rintro ⟨a,b,c⟩
    rcases List.mem_cons.1 a with rfl | a
    ·exact .inl rfl
    ·have h1:=c i List.mem_cons_self f'
     have h2:=hs.1 k a
     exact .inr ⟨a,b,by omega⟩
end
theorem x1i {rs:List Rul} (hrs:z1j rs) (i:Nat):0 < rkR rs i:=by
 unfold rkR
 cases hx:rs[i]? with
 | none=>decide
 | some x=>have:=(hrs.2.2 x (List.mem_of_getElem? hx)).1; show 0 < x.rank; omega
def y72 (rs:List Rul) (x:Prf × Prf):Int:=(z62 (rkR rs) (thR rs x.1 x.2) (thR rs x.2 x.1) (List.range rs.length) (-1) (-1) 0).2.2
theorem y6z {rs:List Rul} (hrs:z1j rs) (x:Prf × Prf) (k:Nat):k ∈ decides rs x ↔ k < rs.length∧(thR rs x.1 x.2 k || thR rs x.2 x.1 k) = true∧rkR rs k = y72 rs x:=by
 have h0:DInv (rkR rs) (thR rs x.1 x.2) (thR rs x.2 x.1) [] (-1) (-1) 0:=⟨.inl rfl,fun i hi=>by simp at hi,.inl ⟨rfl,fun i hi=>by simp at hi⟩,.inl ⟨rfl,fun i hi=>by simp at hi⟩⟩
 have q:=y5z (rkR rs) (thR rs x.1 x.2) (thR rs x.2 x.1) (x1i hrs) (List.range rs.length) [] _ _ _ h0 (fun i _ j hj=>by simp at hj) List.pairwise_lt_range
 have hm:∀ j,j ∈ (List.range rs.length).reverse++[] ↔ j < rs.length:=fun j=>by simp
 have hl:∀ j,j ∈ z05 rs ↔ j < rs.length:=fun j=>by rw [(y2e rs).mem_iff,List.mem_range]
 have hs:(z05 rs).Pairwise (fun j i=>rkR rs i ≤ rkR rs j):=(x13 rs).imp fun h=>by omega
 unfold decides
 rw [w1q _ _ _ (x1i hrs) _ hs,hl]
 constructor
 ·rintro ⟨a,b,c⟩
  refine ⟨a,b,?_⟩
  have h1:=q.le k ((hm k).2 a) b
  rcases q.top with h2 | ⟨j,h2,h3,h4⟩
  ·have:=x1i hrs k
   rw [h2] at h1; omega
  ·have h5:=c j ((hl j).2 ((hm j).1 h2)) h3
   show rkR rs k = (z62 _ _ _ _ _ _ _).2.2
   omega
 ·rintro ⟨a,b,c⟩
  refine ⟨a,b,fun j hj hf=>?_⟩
  have:=q.le j ((hm j).2 ((hl j).1 hj)) hf
  rw [c]
  exact this
section
variable {rs:List Rul} (hrs:z1j rs) {Q:CR→Prop}
include hrs
section
attribute [local irreducible] csL z2i
end
end
section
attribute [local irreducible] csL z2i wpF wpC
end
end Go.Proofs
