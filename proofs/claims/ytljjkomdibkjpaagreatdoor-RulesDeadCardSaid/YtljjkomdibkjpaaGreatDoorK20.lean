/- Contracts of functions of the program and of the reference. -/
import Derived.Test.YtljjkomdibkjpaaGreatDoorK19
import Derived.Test.YtljjkomdibkjpaaGreatDoorK11
set_option linter.unusedVariables false
set_option linter.unusedSimpArgs false
set_option maxRecDepth 100000
set_option linter.unusedVariables false
-- elP C19
namespace Go.Proofs
open Go Go.Ev
def y78 (rs:List Rul):List Nat:=(List.range rs.length).filter fun i=>!(z2l rs).getD i false
noncomputable def z4b (rs:List Rul):List Nat × Int:=if chk rs = 0 then (y78 rs,0) else ([],chk rs)
noncomputable def R47:Spc:=fun args=>match args with
 | [.agg [.vs l len .none]]=>some (∃ rs,l = z0c rs∧len = rs.length∧z1h rs,.ret (.tup [.vs (encD (z0g z0c z4b ([],0) l).1) (z0g z0c z4b ([],0) l).1.length (tkZ (z0g z0c z4b ([],0) l).1),I (z0g z0c z4b ([],0) l).2]))
 | _=>none
def w7p:List (Nat × List Nat):=[(6,[5,14,15,16]),(11,[5])]
noncomputable def Tryz.X47:WCx:=Tryz.B.wcx [(27,R27),(89,R89)] w7p [] [] [(6,0)]
theorem v47 (l:List AV) (len:Nat) (Q:CR→Prop):wpF Tryz.X47 47 [.agg [.vs l len .none]] Q =
 ((∃ (rs:List Rul),l = z0c rs∧len = rs.length∧z1h rs)∧cIf (z0g z0c chk (0:Int) l != (0:Int)) (Q (CR.ret (AV.tup [AV.vs [] 0 Tok.zero,I (z0g z0c chk (0:Int) l)]))) (y4h l len∧cIf (noHL 0 ([X,X,X,X,X,AV.vs [] 0 Tok.zero,X,X,X,X,X,X,X,X,AV.vs (z07 (z0g z0c z2l [] l)) len Tok.none,I len,I 0]++List.replicate 12 X)) (z0l Tryz.X47 (cd Tryz.X47.P 47 [1,1,1,0,1,0,0]) ([X,X,X,X,X,AV.vs [] 0 Tok.zero,X,X,X,X,X,X,X,X,AV.vs (z07 (z0g z0c z2l [] l)) len Tok.none,I len,I 0]++List.replicate 12 X) (St.mk [] [] []) (z0d 0 (z0i Tryz.X47 (cd Tryz.X47.P 47 [1,1,1,1]) (z0f Tryz.X47 47 Q)))) False)):=by kernel_rfl
theorem w6g (al:List AV) (n:Nat) (i:Int) (Q:CR→Prop):wpC Tryz.X47 (cd PP 47 [1,1,1,0,1,0,0]) ([X,X,X,X,X,.vs [] 0 .zero,X,X,X,X,X,X,X,X,.vs al n .none,I n,I i]++List.replicate 12 X) ⟨[],[],[]⟩ (z0r Tryz.X47 (cd PP 47 [1,1,1,0,1,0,0]) (z0d 0 (z0i Tryz.X47 (cd PP 47 [1,1,1,1]) (z0f Tryz.X47 47 Q)))) =
 (cIf (decide (i < (↑n:Int))) (cIf (decide ((0:Int) ≤ i)) (cIf (decide (i.toNat < n)) (cIf (decide (n * 1 = al.length)) (cIf (decide (0 < (List.drop (i.toNat * 1) al).length)) (cIf (z1g (AV.ofVal (Value.bool false)) ((List.drop (i.toNat * 1) al).getD 0 X)) (cIf (!cB (List.drop (i.toNat * 1) al) 0) (cIf (noHL 0 ([X,X,X,X,X,AV.vs [I i] 1 (Tok.own 1),X,X,X,X,X,X,X,X,AV.vs al n Tok.none,I n,I (IntKind.i64.wrap (i + (1:Int)))]++List.replicate 12 X)) (z0l Tryz.X47 (cd PP 47 [1,1,1,0,1,0,0]) ([X,X,X,X,X,AV.vs [I i] 1 (Tok.own 1),X,X,X,X,X,X,X,X,AV.vs al n Tok.none,I n,I (IntKind.i64.wrap (i + (1:Int)))]++List.replicate 12 X) (St.mk [] [(1,1,3),(1,1,3)] []) (z0d 0 (z0i Tryz.X47 (cd PP 47 [1,1,1,1]) (z0f Tryz.X47 47 Q)))) False) (cIf (noHL 0 ([X,X,X,X,X,AV.vs [] 0 Tok.zero,X,X,X,X,X,X,X,X,AV.vs al n Tok.none,I n,I (IntKind.i64.wrap (i + (1:Int)))]++List.replicate 12 X)) (z0l Tryz.X47 (cd PP 47 [1,1,1,0,1,0,0]) ([X,X,X,X,X,AV.vs [] 0 Tok.zero,X,X,X,X,X,X,X,X,AV.vs al n Tok.none,I n,I (IntKind.i64.wrap (i + (1:Int)))]++List.replicate 12 X) (St.mk [] [] []) (z0d 0 (z0i Tryz.X47 (cd PP 47 [1,1,1,1]) (z0f Tryz.X47 47 Q)))) False)) False) False) False) False) False) (Q (CR.ret (AV.tup [AV.vs [] 0 Tok.zero,I 0])))):=by kernel_rfl
theorem w6h (al cs:List AV) (n m k:Nat) (T:List (Nat × (Nat × Nat))) (i:Int) (Q:CR→Prop):wpC Tryz.X47 (cd PP 47 [1,1,1,0,1,0,0]) ([X,X,X,X,X,.vs cs m (.own k),X,X,X,X,X,X,X,X,.vs al n .none,I n,I i]++List.replicate 12 X) ⟨[],T,[]⟩ (z0r Tryz.X47 (cd PP 47 [1,1,1,0,1,0,0]) (z0d 0 (z0i Tryz.X47 (cd PP 47 [1,1,1,1]) (z0f Tryz.X47 47 Q)))) =
 (cIf (decide (i < (↑n:Int))) (cIf (decide ((0:Int) ≤ i)) (cIf (decide (i.toNat < n)) (cIf (decide (n * 1 = al.length)) (cIf (decide (0 < (List.drop (i.toNat * 1) al).length)) (cIf (z1g (AV.ofVal (Value.bool false)) ((List.drop (i.toNat * 1) al).getD 0 X)) (cIf (!cB (List.drop (i.toNat * 1) al) 0) (cIf (decide ((m + 1) * 8 ≤ 140737488355328)) (cIf (decide (m + 1 ≤ 140737488355328)) (cIf (decide (cs.length = m * 1)) (cIf (decide ((T++[(1,1,3)])[k]? = some (m,1,3))) (cIf (noHL 0 ([X,X,X,X,X,AV.vs (cs++[I i]) (m + 1) (Tok.own k),X,X,X,X,X,X,X,X,AV.vs al n Tok.none,I n,I (IntKind.i64.wrap (i + (1:Int)))]++List.replicate 12 X)) (z0l Tryz.X47 (cd PP 47 [1,1,1,0,1,0,0]) ([X,X,X,X,X,AV.vs (cs++[I i]) (m + 1) (Tok.own k),X,X,X,X,X,X,X,X,AV.vs al n Tok.none,I n,I (IntKind.i64.wrap (i + (1:Int)))]++List.replicate 12 X) (St.mk [] ((T++[(1,1,3)]).set k (m + 1,1,3)) []) (z0d 0 (z0i Tryz.X47 (cd PP 47 [1,1,1,1]) (z0f Tryz.X47 47 Q)))) False) False) False) False) False) (cIf (noHL 0 ([X,X,X,X,X,AV.vs cs m (Tok.own k),X,X,X,X,X,X,X,X,AV.vs al n Tok.none,I n,I (IntKind.i64.wrap (i + (1:Int)))]++List.replicate 12 X)) (z0l Tryz.X47 (cd PP 47 [1,1,1,0,1,0,0]) ([X,X,X,X,X,AV.vs cs m (Tok.own k),X,X,X,X,X,X,X,X,AV.vs al n Tok.none,I n,I (IntKind.i64.wrap (i + (1:Int)))]++List.replicate 12 X) (St.mk [] T []) (z0d 0 (z0i Tryz.X47 (cd PP 47 [1,1,1,1]) (z0f Tryz.X47 47 Q)))) False)) False) False) False) False) False) (z0f Tryz.X47 47 Q EX.ret [X,X,AV.vs cs m (Tok.own k),I 0,X,AV.vs cs m (Tok.own k),X,X,X,X,X,X,X,X,X,X,X,X,X,X,X,X,X,X,X,X,X,X,AV.vs cs m (Tok.own k)] (St.mk [] T []))):=by kernel_rfl
end Go.Proofs
set_option maxRecDepth 100000
set_option linter.unusedVariables false
namespace Go.Proofs
open Go Go.Ev
def y54 (o:List Bool):List Nat:=(List.range o.length).filter fun i=>!o.getD i false
theorem z9y (rs:List Rul):(z2l rs).length = rs.length:=by simp [z2l]
theorem x1s (rs:List Rul):y78 rs = y54 (z2l rs):=by unfold y78 y54; rw [z9y]
theorem x2n (cs:List AV) (m:Nat) (tk:Tok) (o:List Bool) (n:Nat) (i:Int) (hcs:noHL 0 cs = true):noHL 0 ([X,X,X,X,X,AV.vs cs m tk,X,X,X,X,X,X,X,X,AV.vs (z07 o) n Tok.none,I (n:Int),I i]++List.replicate 12 X) = true:=by
 refine z6j ?_ (z2e 0 12)
 simp [noHL,noH,hcs,z5c]
theorem c47:Cts Tryz.B [(27,R27),(89,R89)]:=((Cts.nil _).cons w72).cons (x90 x9y)
section
variable {o:List Bool} (ho:o.length ≤ 1000) {Q:CR→Prop}
include ho
theorem v05:∀ (d i:Nat) (acc:List Nat) (k:Nat) (T:List (Nat × (Nat × Nat))),o.length - i = d→i ≤ o.length→acc.length ≤ i→T[k]? = some (acc.length,1,3)→Q (.ret (.tup [.vs (encD (acc++((List.range o.length).drop i).filter fun i=>!o.getD i false)) (acc++((List.range o.length).drop i).filter fun i=>!o.getD i false).length .none,I 0])) →
  z0l Tryz.X47 (cd PP 47 [1,1,1,0,1,0,0]) ([X,X,X,X,X,.vs (encD acc) acc.length (.own k),X,X,X,X,X,X,X,X,.vs (z07 o) o.length .none,I o.length,I i]++List.replicate 12 X) ⟨[],T,[]⟩ (z0d 0 (z0i Tryz.X47 (cd PP 47 [1,1,1,1]) (z0f Tryz.X47 47 Q))):=by
 intro d
 induction d with
 | zero =>
  intro i acc k T hd hi ha hT hQ
  have hi':i = o.length:=by omega
  subst hi'
  rw [List.drop_of_length_le (by simp),List.filter_nil,List.append_nil] at hQ
  refine z0n (C:=Tryz.X47) (z0y Tryz.bok c47) (z1e Tryz.bok c47) ?_
  rw [w6h]
  refine z0p (decide_eq_false (by omega)) ?_
  exact x9q _ _ acc acc.length k Q hQ
 | succ d ih =>
  intro i acc k T hd hi ha hT hQ
  have hlt:i < o.length:=by omega
  rw [z5e hlt] at hQ
  obtain ⟨t1,t2⟩:=y80 (1,1,3) (acc.length + 1,1,3) hT
  refine z0n (C:=Tryz.X47) (z0y Tryz.bok c47) (z1e Tryz.bok c47) ?_
  rw [w6h,wA1 (a:=i) (by omega),x0t hlt,y77]
  refine z0b (decide_eq_true (by omega)) (z0b (z0z _) (z0b (row_in hlt) (z0b (decide_eq_true (by rw [z8n]; omega)) (z0b (y6t hlt) (z0b (x0s hlt) ?_)))))
  refine z0h (fun h=>?_) (fun h=>?_)
  ·rw [List.filter_cons_of_pos (p:=fun i=>!o.getD i false) h,List.append_cons] at hQ
   refine z0b (decide_eq_true (by omega)) (z0b (decide_eq_true (by omega)) (z0b (decide_eq_true (by rw [z4v]; omega)) (z0b (decide_eq_true t1) (z0b (x2n _ _ _ _ _ _ (z1t _ _)) ?_))))
   have:=ih (i + 1) (acc++[i]) k ((T++[(1,1,3)]).set k (acc.length + 1,1,3)) (by omega) (by omega) (by simp; omega) (by rw [t2,List.length_append]; rfl) hQ
   rw [List.length_append] at this
   exact this
  ·rw [List.filter_cons_of_neg (by rw [h]; simp)] at hQ
   exact z0b (x2n _ _ _ _ _ _ (z1t _ _)) (ih (i + 1) acc k T (by omega) (by omega) (by omega) hT hQ)
theorem v04:∀ (d i:Nat),o.length - i = d→i ≤ o.length→Q (.ret (.tup [.vs (encD (((List.range o.length).drop i).filter fun i=>!o.getD i false)) (((List.range o.length).drop i).filter fun i=>!o.getD i false).length (tkZ (((List.range o.length).drop i).filter fun i=>!o.getD i false)),I 0])) →
  z0l Tryz.X47 (cd PP 47 [1,1,1,0,1,0,0]) ([X,X,X,X,X,.vs [] 0 .zero,X,X,X,X,X,X,X,X,.vs (z07 o) o.length .none,I o.length,I i]++List.replicate 12 X) ⟨[],[],[]⟩ (z0d 0 (z0i Tryz.X47 (cd PP 47 [1,1,1,1]) (z0f Tryz.X47 47 Q))):=by
 intro d
 induction d with
 | zero =>
  intro i hd hi hQ
  have hi':i = o.length:=by omega
  subst hi'
  rw [List.drop_of_length_le (by simp),List.filter_nil] at hQ
  refine z0n (C:=Tryz.X47) (z0y Tryz.bok c47) (z1e Tryz.bok c47) ?_
  rw [w6g]
  exact z0p (decide_eq_false (by omega)) hQ
 | succ d ih =>
  intro i hd hi hQ
  have hlt:i < o.length:=by omega
  rw [z5e hlt] at hQ
  refine z0n (C:=Tryz.X47) (z0y Tryz.bok c47) (z1e Tryz.bok c47) ?_
  rw [w6g,wA1 (a:=i) (by omega),x0t hlt]
  refine z0b (decide_eq_true (by omega)) (z0b (z0z _) (z0b (row_in hlt) (z0b (decide_eq_true (by rw [z8n]; omega)) (z0b (y6t hlt) (z0b (x0s hlt) ?_)))))
  refine z0h (fun h=>?_) (fun h=>?_)
  ·rw [List.filter_cons_of_pos (p:=fun i=>!o.getD i false) h,y73] at hQ
   refine z0b (x2n _ _ _ _ _ _ rfl) ?_
   exact v05 ho d (i + 1) [i] 1 [(1,1,3),(1,1,3)] (by omega) (by omega) (by simp) rfl hQ
  ·rw [List.filter_cons_of_neg (by rw [h]; simp)] at hQ
   exact z0b (x2n _ _ _ _ _ _ rfl) (ih (i + 1) (by omega) (by omega) hQ)
end
theorem v1j:Ct Tryz.B.c0 47 R47:=Ct.of_wp (l:=[(27,R27),(89,R89)]) (lm:=w7p) (tp:=[]) (ct:=[]) (sm:=[(6,0)]) Tryz.bok c47 ⟨_,_,Tryz.func47,rfl⟩ fun args D r hR hD=>by
 unfold R47 at hR
 split at hR <;> cases hR
 obtain ⟨rs,rfl,rfl,hw⟩:=hD
 refine ⟨by simp [noHL,noH,z0t],?_⟩
 rw [show z0e 0 [AV.agg [.vs (z0c rs) rs.length .none]] = [AV.agg [.vs (z0c rs) rs.length .none]] by simp [z0e,scrub,z1f,Tok.scrub],z0j z0u]
 show wpF Tryz.X47 47 _ _
 rw [v47,z0j z0u,z0j z0u]
 unfold z4b
 refine ⟨⟨rs,rfl,rfl,hw⟩,z0h (fun h=>?_) (fun h=>?_)⟩
 ·have h:¬ chk rs = 0:=by simpa using h
  rw [if_neg h]; rfl
 ·have h:chk rs = 0:=by simpa using h
  obtain ⟨h1,h2,_⟩:=z8x hw h
  rw [if_pos h,x1s]
  refine ⟨⟨rs,rfl,rfl,h1,h2⟩,z0b (x2n _ _ _ _ _ _ rfl) ?_⟩
  have:=v04 (o:=z2l rs) (Q:=fun r'=>r' = .ret (.tup [.vs (encD (y54 (z2l rs))) (y54 (z2l rs)).length (tkZ (y54 (z2l rs))),I 0])) (by have:=h1.2.1; rw [z9y]; omega) rs.length 0 (by rw [z9y]; omega) (by omega) rfl
  rw [z9y] at this
  exact this
end Go.Proofs
set_option maxRecDepth 100000
set_option linter.unusedVariables false
-- elP C19
namespace Go.Proofs
open Go Go.Ev
def v4x:List (Nat × List Nat):=[(7,[1,5,6,7]),(8,[1,5,6,7]),(12,[1,5,6,7,8,9,10,11]),(18,[5]),(20,[5,14,15]),(24,[14])]
noncomputable def Tryz.X48 (pl:List AV):WCx:=Tryz.B.wcx [(54,RPl pl),(70,R70),(82,R82),(83,R83),(86,R86)] v4x [1] [] [(7,2),(12,5),(20,2)]
theorem v48 (pl:List AV) (l:List AV) (len:Nat) (Q:CR→Prop):wpF (Tryz.X48 pl) 48 [.agg [.vs l len .none]] Q =
 ((∃ (rs:List Rul),l = z0c rs∧len = rs.length∧z1h rs)∧cIf (z0g z0c chk (0:Int) l != (0:Int)) (Q (CR.ret (AV.tup [AV.vs [] 0 Tok.zero,I (z0g z0c chk (0:Int) l)]))) (cIf (decide ((↑len:Int) ≤ (↑len:Int))) (cIf (decide ((↑len:Int) * (↑1:Int) ≤ (140737488355328:Int))) (cIf (decide ((↑len:Int) ≤ (140737488355328:Int))) (True∧cIf (noHL 2 ([X,AV.ptr 0 0,X,X,X,AV.row 1 0 len len,AV.vs pl 120 Tok.none,I 0]++List.replicate 96 X)) (cIf ([some (HB.cells [AV.vs l len Tok.none] 25),some (HB.cells (z2o (List.map AV.ofVal (Value.bool false).cells.toList) len) 4)].all (okBlk 2)) (z0l (Tryz.X48 pl) (cd (Tryz.X48 pl).P 48 [1,1,1,1,1,0,1,0,0]) ([X,AV.ptr 0 0,X,X,X,AV.row 1 0 len len,AV.vs pl 120 Tok.none,I 0]++List.replicate 96 X) (St.mk [some (HB.cells [AV.vs l len Tok.none] 25),some (HB.cells (z2o (List.map AV.ofVal (Value.bool false).cells.toList) len) 4)] [] []) (z0d 0 (z0i (Tryz.X48 pl) (cd (Tryz.X48 pl).P 48 [1,1,1,1,1,1]) (z0f (Tryz.X48 pl) 48 Q)))) False) False) False) False) False)):=by kernel_rfl
theorem v4i (pl l ob:List AV) (len m:Nat) (i:Int) (Q:CR→Prop):wpC (Tryz.X48 pl) (cd PP 48 [1,1,1,1,1,0,1,0,0]) ([X,.ptr 0 0,X,X,X,.row 1 0 m m,.vs pl 120 .none,I i]++List.replicate 96 X) ⟨[some (.cells [.vs l len .none] 25),some (.cells ob 4)],[],[]⟩ (z0r (Tryz.X48 pl) (cd PP 48 [1,1,1,1,1,0,1,0,0]) (z0d 0 (z0i (Tryz.X48 pl) (cd PP 48 [1,1,1,1,1,1]) (z0f (Tryz.X48 pl) 48 Q)))) =
 (cIf (decide (i < (129600:Int))) ((pl = z2m profL∧120 = 120∧(0:Int) ≤ i∧i < (129600:Int))∧((∃ (rs:List Rul),l = z0c rs∧len = rs.length∧z1j rs)∧(∃ (p:Prf),(z0a (z2i i.toNat).fst) = z0a p)∧∃ (q:Prf),(z0a (z2i i.toNat).snd) = z0a q)∧cIf (noHL 5 ([X,AV.ptr 0 0,X,X,X,AV.row 1 0 m m,AV.vs pl 120 Tok.none,I i,AV.ptr 2 0,AV.ptr 3 0,AV.ptr 4 0,I 0]++List.replicate 92 X)) (cIf ([some (HB.cells [AV.vs l len Tok.none] 25),some (HB.cells ob 4),some (HB.cells (z0a (z2i i.toNat).fst) 40),some (HB.cells (z0a (z2i i.toNat).snd) 40),some (HB.cells [AV.int IntKind.u8 (z01 (dvR l (z0a (z2i i.toNat).fst) (z0a (z2i i.toNat).snd)).fst (dvR l (z0a (z2i i.toNat).fst) (z0a (z2i i.toNat).snd)).snd.fst),AV.int IntKind.i64 (dvR l (z0a (z2i i.toNat).fst) (z0a (z2i i.toNat).snd)).fst,AV.int IntKind.i64 (dvR l (z0a (z2i i.toNat).fst) (z0a (z2i i.toNat).snd)).snd.fst,AV.int IntKind.i64 (dvR l (z0a (z2i i.toNat).fst) (z0a (z2i i.toNat).snd)).snd.snd] 115)].all (okBlk 5)) (z0l (Tryz.X48 pl) (cd PP 48 [1,1,1,1,1,0,1,0,0,1,0,0,1,1,1,0,0]) ([X,AV.ptr 0 0,X,X,X,AV.row 1 0 m m,AV.vs pl 120 Tok.none,I i,AV.ptr 2 0,AV.ptr 3 0,AV.ptr 4 0,I 0]++List.replicate 92 X) (St.mk [some (HB.cells [AV.vs l len Tok.none] 25),some (HB.cells ob 4),some (HB.cells (z0a (z2i i.toNat).fst) 40),some (HB.cells (z0a (z2i i.toNat).snd) 40),some (HB.cells [AV.int IntKind.u8 (z01 (dvR l (z0a (z2i i.toNat).fst) (z0a (z2i i.toNat).snd)).fst (dvR l (z0a (z2i i.toNat).fst) (z0a (z2i i.toNat).snd)).snd.fst),AV.int IntKind.i64 (dvR l (z0a (z2i i.toNat).fst) (z0a (z2i i.toNat).snd)).fst,AV.int IntKind.i64 (dvR l (z0a (z2i i.toNat).fst) (z0a (z2i i.toNat).snd)).snd.fst,AV.int IntKind.i64 (dvR l (z0a (z2i i.toNat).fst) (z0a (z2i i.toNat).snd)).snd.snd] 115)] [] []) (z0d 2 (z0d 1 (z0i (Tryz.X48 pl) (cd PP 48 [1,1,1,1,1,0,1,0,0,1,1]) (z0r (Tryz.X48 pl) (cd PP 48 [1,1,1,1,1,0,1,0,0]) (z0d 0 (z0i (Tryz.X48 pl) (cd PP 48 [1,1,1,1,1,1]) (z0f (Tryz.X48 pl) 48 Q)))))))) False) False) (cIf ([some (HB.cells [AV.vs l len Tok.none] 25),some (HB.cells ob 4)].all (okBlk 2)) (z0l (Tryz.X48 pl) (cd PP 48 [1,1,1,1,1,1,1,0,1,0,0]) ([X,X,X,X,X,AV.row 1 0 m m,X,X,X,X,X,X,X,X,AV.vs [] 0 Tok.zero,I 0]++List.replicate 88 X) (St.mk [some (HB.cells [AV.vs l len Tok.none] 25),some (HB.cells ob 4)] [] []) (z0d 4 (z0i (Tryz.X48 pl) (cd PP 48 [1,1,1,1,1,1,1,1]) (z0f (Tryz.X48 pl) 48 Q)))) False)):=by kernel_rfl
theorem v4j (pl l ob:List AV) (len m:Nat) (p q:Prf) (kd v w r i j:Int) (Q:CR→Prop):wpC (Tryz.X48 pl) (cd PP 48 [1,1,1,1,1,0,1,0,0,1,0,0,1,1,1,0,0]) ([X,.ptr 0 0,X,X,X,.row 1 0 m m,.vs pl 120 .none,I i,.ptr 2 0,.ptr 3 0,.ptr 4 0,I j]++List.replicate 92 X) ⟨[some (.cells [.vs l len .none] 25),some (.cells ob 4),some (.cells (z0a p) 40),some (.cells (z0a q) 40),some (.cells [U kd,I v,I w,I r] 115)],[],[]⟩ (z0r (Tryz.X48 pl) (cd PP 48 [1,1,1,1,1,0,1,0,0,1,0,0,1,1,1,0,0]) (z0d 2 (z0d 1 (z0i (Tryz.X48 pl) (cd PP 48 [1,1,1,1,1,0,1,0,0,1,1]) (z0r (Tryz.X48 pl) (cd PP 48 [1,1,1,1,1,0,1,0,0]) (z0d 0 (z0i (Tryz.X48 pl) (cd PP 48 [1,1,1,1,1,1]) (z0f (Tryz.X48 pl) 48 Q)))))))) =
 (cIf (decide (j < (↑len:Int))) (cIf (decide ((0:Int) ≤ j)) (cIf (decide (j.toNat < m)) (cIf (decide (0 + j.toNat * 1 < ob.length)) (cIf (z1g (AV.ofVal (Value.bool false)) (ob.getD (0 + j.toNat * 1) X)) (cIf (!cB ob (0 + j.toNat * 1)) (cIf (decide ((0:Int) ≤ j)) (cIf (decide (j.toNat < len)) (cIf (decide (len * 8 = l.length)) (cIf (decide (0 < (List.drop 1 (List.drop (j.toNat * 8) l)).length)) (cIf (z1g (AV.ofVal (Value.int IntKind.i64 (0:Int))) ((List.drop 1 (List.drop (j.toNat * 8) l)).getD 0 X)) (cIf (cI (List.drop 1 (List.drop (j.toNat * 8) l)) 0 == r) (cIf (decide ((0:Int) ≤ j)) (cIf (decide (j.toNat < len)) (cIf (decide (len * 8 = l.length)) (cIf (decide (5 ≤ (List.drop 3 (List.drop (j.toNat * 8) l)).length)) (cIf (like zT (el (List.drop 3 (List.drop (j.toNat * 8) l)) 0 5)) (cIf (noHL [some (HB.cells [AV.vs l len Tok.none] 25),some (HB.cells ob 4),some (HB.cells (z0a p) 40),some (HB.cells (z0a q) 40),some (HB.cells [U kd,I v,I w,I r] 115)].length ([]++[AV.agg (elT (el (List.drop 3 (List.drop (j.toNat * 8) l)) 0 5)),AV.agg (z0a p),AV.agg (z0a q)]++[])) (((∃ (t:Tst),(elT (el (List.drop 3 (List.drop (j.toNat * 8) l)) 0 5)) = z0m t∧wfT t)∧(∃ (a:Prf),(z0a p) = z0a a)∧∃ (b:Prf),(z0a q) = z0a b)∧St.mk [some (HB.cells [AV.vs l len Tok.none] 25),some (HB.cells ob 4),some (HB.cells (z0a p) 40),some (HB.cells (z0a q) 40),some (HB.cells [U kd,I v,I w,I r] 115)] [] [] = St.mk [some (HB.cells [AV.vs l len Tok.none] 25),some (HB.cells ob 4),some (HB.cells (z0a p) 40),some (HB.cells (z0a q) 40),some (HB.cells [U kd,I v,I w,I r] 115)] [] []∧cIf (decide ((0:Int) ≤ j)) (cIf (decide (j.toNat < len)) (cIf (decide (len * 8 = l.length)) (cIf (decide (5 ≤ (List.drop 3 (List.drop (j.toNat * 8) l)).length)) (cIf (like zT (el (List.drop 3 (List.drop (j.toNat * 8) l)) 0 5)) (cIf (noHL [some (HB.cells [AV.vs l len Tok.none] 25),some (HB.cells ob 4),some (HB.cells (z0a p) 40),some (HB.cells (z0a q) 40),some (HB.cells [U kd,I v,I w,I r] 115)].length ([]++[AV.agg (elT (el (List.drop 3 (List.drop (j.toNat * 8) l)) 0 5)),AV.agg (z0a q),AV.agg (z0a p)]++[])) (((∃ (t:Tst),(elT (el (List.drop 3 (List.drop (j.toNat * 8) l)) 0 5)) = z0m t∧wfT t)∧(∃ (a:Prf),(z0a q) = z0a a)∧∃ (b:Prf),(z0a p) = z0a b)∧St.mk [some (HB.cells [AV.vs l len Tok.none] 25),some (HB.cells ob 4),some (HB.cells (z0a p) 40),some (HB.cells (z0a q) 40),some (HB.cells [U kd,I v,I w,I r] 115)] [] [] = St.mk [some (HB.cells [AV.vs l len Tok.none] 25),some (HB.cells ob 4),some (HB.cells (z0a p) 40),some (HB.cells (z0a q) 40),some (HB.cells [U kd,I v,I w,I r] 115)] [] []∧cIf (z0g z0m (fun (t:Tst)=>z0g z0a (fun (a:Prf)=>z0g z0a (fun (b:Prf)=>hoT t a b) false (z0a q)) false (z0a p)) false (elT (el (List.drop 3 (List.drop (j.toNat * 8) l)) 0 5))) (cIf (decide ((0:Int) ≤ j)) (cIf (decide (j.toNat < m)) (cIf (decide (0 + j.toNat * 1 + 1 ≤ ob.length)) (cIf (noHL 5 ([X,AV.ptr 0 0,X,X,X,AV.row 1 0 m m,AV.vs pl 120 Tok.none,I i,AV.ptr 2 0,AV.ptr 3 0,AV.ptr 4 0,I (IntKind.i64.wrap (j + (1:Int)))]++List.replicate 92 X)) (cIf ([some (HB.cells [AV.vs l len Tok.none] 25),some (HB.cells (z1y ob (0 + j.toNat * 1) [Bo true]) 4),some (HB.cells (z0a p) 40),some (HB.cells (z0a q) 40),some (HB.cells [U kd,I v,I w,I r] 115)].all (okBlk 5)) (z0l (Tryz.X48 pl) (cd PP 48 [1,1,1,1,1,0,1,0,0,1,0,0,1,1,1,0,0]) ([X,AV.ptr 0 0,X,X,X,AV.row 1 0 m m,AV.vs pl 120 Tok.none,I i,AV.ptr 2 0,AV.ptr 3 0,AV.ptr 4 0,I (IntKind.i64.wrap (j + (1:Int)))]++List.replicate 92 X) (St.mk [some (HB.cells [AV.vs l len Tok.none] 25),some (HB.cells (z1y ob (0 + j.toNat * 1) [Bo true]) 4),some (HB.cells (z0a p) 40),some (HB.cells (z0a q) 40),some (HB.cells [U kd,I v,I w,I r] 115)] [] []) (z0d 2 (z0d 1 (z0i (Tryz.X48 pl) (cd PP 48 [1,1,1,1,1,0,1,0,0,1,1]) (z0r (Tryz.X48 pl) (cd PP 48 [1,1,1,1,1,0,1,0,0]) (z0d 0 (z0i (Tryz.X48 pl) (cd PP 48 [1,1,1,1,1,1]) (z0f (Tryz.X48 pl) 48 Q)))))))) False) False) False) False) False) (cIf (decide ((0:Int) ≤ j)) (cIf (decide (j.toNat < m)) (cIf (decide (0 + j.toNat * 1 + 1 ≤ ob.length)) (cIf (noHL 5 ([X,AV.ptr 0 0,X,X,X,AV.row 1 0 m m,AV.vs pl 120 Tok.none,I i,AV.ptr 2 0,AV.ptr 3 0,AV.ptr 4 0,I (IntKind.i64.wrap (j + (1:Int)))]++List.replicate 92 X)) (cIf ([some (HB.cells [AV.vs l len Tok.none] 25),some (HB.cells (z1y ob (0 + j.toNat * 1) [AV.bool (z0g z0m (fun (t:Tst)=>z0g z0a (fun (a:Prf)=>z0g z0a (fun (b:Prf)=>hoT t a b) false (z0a p)) false (z0a q)) false (elT (el (List.drop 3 (List.drop (j.toNat * 8) l)) 0 5)))]) 4),some (HB.cells (z0a p) 40),some (HB.cells (z0a q) 40),some (HB.cells [U kd,I v,I w,I r] 115)].all (okBlk 5)) (z0l (Tryz.X48 pl) (cd PP 48 [1,1,1,1,1,0,1,0,0,1,0,0,1,1,1,0,0]) ([X,AV.ptr 0 0,X,X,X,AV.row 1 0 m m,AV.vs pl 120 Tok.none,I i,AV.ptr 2 0,AV.ptr 3 0,AV.ptr 4 0,I (IntKind.i64.wrap (j + (1:Int)))]++List.replicate 92 X) (St.mk [some (HB.cells [AV.vs l len Tok.none] 25),some (HB.cells (z1y ob (0 + j.toNat * 1) [AV.bool (z0g z0m (fun (t:Tst)=>z0g z0a (fun (a:Prf)=>z0g z0a (fun (b:Prf)=>hoT t a b) false (z0a p)) false (z0a q)) false (elT (el (List.drop 3 (List.drop (j.toNat * 8) l)) 0 5)))]) 4),some (HB.cells (z0a p) 40),some (HB.cells (z0a q) 40),some (HB.cells [U kd,I v,I w,I r] 115)] [] []) (z0d 2 (z0d 1 (z0i (Tryz.X48 pl) (cd PP 48 [1,1,1,1,1,0,1,0,0,1,1]) (z0r (Tryz.X48 pl) (cd PP 48 [1,1,1,1,1,0,1,0,0]) (z0d 0 (z0i (Tryz.X48 pl) (cd PP 48 [1,1,1,1,1,1]) (z0f (Tryz.X48 pl) 48 Q)))))))) False) False) False) False) False)) False) False) False) False) False) False) False) False) False) False) False) False) (cIf (noHL 5 ([X,AV.ptr 0 0,X,X,X,AV.row 1 0 m m,AV.vs pl 120 Tok.none,I i,AV.ptr 2 0,AV.ptr 3 0,AV.ptr 4 0,I (IntKind.i64.wrap (j + (1:Int)))]++List.replicate 92 X)) (cIf ([some (HB.cells [AV.vs l len Tok.none] 25),some (HB.cells ob 4),some (HB.cells (z0a p) 40),some (HB.cells (z0a q) 40),some (HB.cells [U kd,I v,I w,I r] 115)].all (okBlk 5)) (z0l (Tryz.X48 pl) (cd PP 48 [1,1,1,1,1,0,1,0,0,1,0,0,1,1,1,0,0]) ([X,AV.ptr 0 0,X,X,X,AV.row 1 0 m m,AV.vs pl 120 Tok.none,I i,AV.ptr 2 0,AV.ptr 3 0,AV.ptr 4 0,I (IntKind.i64.wrap (j + (1:Int)))]++List.replicate 92 X) (St.mk [some (HB.cells [AV.vs l len Tok.none] 25),some (HB.cells ob 4),some (HB.cells (z0a p) 40),some (HB.cells (z0a q) 40),some (HB.cells [U kd,I v,I w,I r] 115)] [] []) (z0d 2 (z0d 1 (z0i (Tryz.X48 pl) (cd PP 48 [1,1,1,1,1,0,1,0,0,1,1]) (z0r (Tryz.X48 pl) (cd PP 48 [1,1,1,1,1,0,1,0,0]) (z0d 0 (z0i (Tryz.X48 pl) (cd PP 48 [1,1,1,1,1,1]) (z0f (Tryz.X48 pl) 48 Q)))))))) False) False)) False) False) False) False) False) (cIf (noHL 5 ([X,AV.ptr 0 0,X,X,X,AV.row 1 0 m m,AV.vs pl 120 Tok.none,I i,AV.ptr 2 0,AV.ptr 3 0,AV.ptr 4 0,I (IntKind.i64.wrap (j + (1:Int)))]++List.replicate 92 X)) (cIf ([some (HB.cells [AV.vs l len Tok.none] 25),some (HB.cells ob 4),some (HB.cells (z0a p) 40),some (HB.cells (z0a q) 40),some (HB.cells [U kd,I v,I w,I r] 115)].all (okBlk 5)) (z0l (Tryz.X48 pl) (cd PP 48 [1,1,1,1,1,0,1,0,0,1,0,0,1,1,1,0,0]) ([X,AV.ptr 0 0,X,X,X,AV.row 1 0 m m,AV.vs pl 120 Tok.none,I i,AV.ptr 2 0,AV.ptr 3 0,AV.ptr 4 0,I (IntKind.i64.wrap (j + (1:Int)))]++List.replicate 92 X) (St.mk [some (HB.cells [AV.vs l len Tok.none] 25),some (HB.cells ob 4),some (HB.cells (z0a p) 40),some (HB.cells (z0a q) 40),some (HB.cells [U kd,I v,I w,I r] 115)] [] []) (z0d 2 (z0d 1 (z0i (Tryz.X48 pl) (cd PP 48 [1,1,1,1,1,0,1,0,0,1,1]) (z0r (Tryz.X48 pl) (cd PP 48 [1,1,1,1,1,0,1,0,0]) (z0d 0 (z0i (Tryz.X48 pl) (cd PP 48 [1,1,1,1,1,1]) (z0f (Tryz.X48 pl) 48 Q)))))))) False) False)) False) False) False) False) (cIf (noHL 2 ([X,AV.ptr 0 0,X,X,X,AV.row 1 0 m m,AV.vs pl 120 Tok.none,I (IntKind.i64.wrap (i + (1:Int)))]++List.replicate 96 X)) (cIf ([some (HB.cells [AV.vs l len Tok.none] 25),some (HB.cells ob 4)].all (okBlk 2)) (z0l (Tryz.X48 pl) (cd PP 48 [1,1,1,1,1,0,1,0,0]) ([X,AV.ptr 0 0,X,X,X,AV.row 1 0 m m,AV.vs pl 120 Tok.none,I (IntKind.i64.wrap (i + (1:Int)))]++List.replicate 96 X) (St.mk [some (HB.cells [AV.vs l len Tok.none] 25),some (HB.cells ob 4)] [] []) (z0d 0 (z0i (Tryz.X48 pl) (cd PP 48 [1,1,1,1,1,1]) (z0f (Tryz.X48 pl) 48 Q)))) False) False)):=by kernel_rfl
theorem v4g (pl rl ob:List AV) (m:Nat) (i:Int) (Q:CR→Prop):wpC (Tryz.X48 pl) (cd PP 48 [1,1,1,1,1,1,1,0,1,0,0]) ([X,X,X,X,X,.row 1 0 m m,X,X,X,X,X,X,X,X,.vs [] 0 .zero,I i]++List.replicate 88 X) ⟨[some (.cells rl 25),some (.cells ob 4)],[],[]⟩ (z0r (Tryz.X48 pl) (cd PP 48 [1,1,1,1,1,1,1,0,1,0,0]) (z0d 4 (z0i (Tryz.X48 pl) (cd PP 48 [1,1,1,1,1,1,1,1]) (z0f (Tryz.X48 pl) 48 Q)))) =
 (cIf (decide (i < (↑m:Int))) (cIf (decide ((0:Int) ≤ i)) (cIf (decide (i.toNat < m)) (cIf (decide (0 + i.toNat * 1 < ob.length)) (cIf (z1g (AV.ofVal (Value.bool false)) (ob.getD (0 + i.toNat * 1) X)) (cIf (!cB ob (0 + i.toNat * 1)) (cIf ([some (HB.cells rl 25),some (HB.cells ob 4)].all (okBlk 2)) (z0l (Tryz.X48 pl) (cd PP 48 [1,1,1,1,1,1,1,0,1,0,0]) ([X,X,X,X,X,AV.row 1 0 m m,X,X,X,X,X,X,X,X,AV.vs [I i] 1 (Tok.own 1),I (IntKind.i64.wrap (i + (1:Int)))]++List.replicate 88 X) (St.mk [some (HB.cells rl 25),some (HB.cells ob 4)] [(1,1,3),(1,1,3)] []) (z0d 4 (z0i (Tryz.X48 pl) (cd PP 48 [1,1,1,1,1,1,1,1]) (z0f (Tryz.X48 pl) 48 Q)))) False) (cIf ([some (HB.cells rl 25),some (HB.cells ob 4)].all (okBlk 2)) (z0l (Tryz.X48 pl) (cd PP 48 [1,1,1,1,1,1,1,0,1,0,0]) ([X,X,X,X,X,AV.row 1 0 m m,X,X,X,X,X,X,X,X,AV.vs [] 0 Tok.zero,I (IntKind.i64.wrap (i + (1:Int)))]++List.replicate 88 X) (St.mk [some (HB.cells rl 25),some (HB.cells ob 4)] [] []) (z0d 4 (z0i (Tryz.X48 pl) (cd PP 48 [1,1,1,1,1,1,1,1]) (z0f (Tryz.X48 pl) 48 Q)))) False)) False) False) False) False) (Q (CR.ret (AV.tup [AV.vs [] 0 Tok.zero,I 0])))):=by kernel_rfl
theorem v4h (pl rl ob cs:List AV) (m n k:Nat) (T:List (Nat × (Nat × Nat))) (i:Int) (Q:CR→Prop):wpC (Tryz.X48 pl) (cd PP 48 [1,1,1,1,1,1,1,0,1,0,0]) ([X,X,X,X,X,.row 1 0 m m,X,X,X,X,X,X,X,X,.vs cs n (.own k),I i]++List.replicate 88 X) ⟨[some (.cells rl 25),some (.cells ob 4)],T,[]⟩ (z0r (Tryz.X48 pl) (cd PP 48 [1,1,1,1,1,1,1,0,1,0,0]) (z0d 4 (z0i (Tryz.X48 pl) (cd PP 48 [1,1,1,1,1,1,1,1]) (z0f (Tryz.X48 pl) 48 Q)))) =
 (cIf (decide (i < (↑m:Int))) (cIf (decide ((0:Int) ≤ i)) (cIf (decide (i.toNat < m)) (cIf (decide (0 + i.toNat * 1 < ob.length)) (cIf (z1g (AV.ofVal (Value.bool false)) (ob.getD (0 + i.toNat * 1) X)) (cIf (!cB ob (0 + i.toNat * 1)) (cIf (decide ((n + 1) * 8 ≤ 140737488355328)) (cIf (decide (n + 1 ≤ 140737488355328)) (cIf (decide (cs.length = n * 1)) (cIf (decide ((T++[(1,1,3)])[k]? = some (n,1,3))) (cIf (noHL 2 ([X,X,X,X,X,AV.row 1 0 m m,X,X,X,X,X,X,X,X,AV.vs (cs++[I i]) (n + 1) (Tok.own k),I (IntKind.i64.wrap (i + (1:Int)))]++List.replicate 88 X)) (cIf ([some (HB.cells rl 25),some (HB.cells ob 4)].all (okBlk 2)) (z0l (Tryz.X48 pl) (cd PP 48 [1,1,1,1,1,1,1,0,1,0,0]) ([X,X,X,X,X,AV.row 1 0 m m,X,X,X,X,X,X,X,X,AV.vs (cs++[I i]) (n + 1) (Tok.own k),I (IntKind.i64.wrap (i + (1:Int)))]++List.replicate 88 X) (St.mk [some (HB.cells rl 25),some (HB.cells ob 4)] ((T++[(1,1,3)]).set k (n + 1,1,3)) []) (z0d 4 (z0i (Tryz.X48 pl) (cd PP 48 [1,1,1,1,1,1,1,1]) (z0f (Tryz.X48 pl) 48 Q)))) False) False) False) False) False) False) (cIf (noHL 2 ([X,X,X,X,X,AV.row 1 0 m m,X,X,X,X,X,X,X,X,AV.vs cs n (Tok.own k),I (IntKind.i64.wrap (i + (1:Int)))]++List.replicate 88 X)) (cIf ([some (HB.cells rl 25),some (HB.cells ob 4)].all (okBlk 2)) (z0l (Tryz.X48 pl) (cd PP 48 [1,1,1,1,1,1,1,0,1,0,0]) ([X,X,X,X,X,AV.row 1 0 m m,X,X,X,X,X,X,X,X,AV.vs cs n (Tok.own k),I (IntKind.i64.wrap (i + (1:Int)))]++List.replicate 88 X) (St.mk [some (HB.cells rl 25),some (HB.cells ob 4)] T []) (z0d 4 (z0i (Tryz.X48 pl) (cd PP 48 [1,1,1,1,1,1,1,1]) (z0f (Tryz.X48 pl) 48 Q)))) False) False)) False) False) False) False) (z0f (Tryz.X48 pl) 48 Q EX.ret [X,X,AV.vs cs n (Tok.own k),I 0,X,X,X,X,X,X,X,X,X,X,AV.vs cs n (Tok.own k),X,X,X,X,X,X,X,X,X,X,X,X,X,X,X,X,X,X,X,X,X,X,X,X,X,X,X,X,X,X,X,X,X,X,X,X,X,X,X,X,X,X,X,X,X,X,X,X,X,X,X,X,X,X,X,X,X,X,X,X,X,X,X,X,X,X,X,X,X,X,X,X,X,X,X,X,X,X,X,X,X,X,X,X,X,X,X,X,AV.vs cs n (Tok.own k)] (St.mk [some (HB.cells rl 25),some (HB.cells ob 4)] T []))):=by kernel_rfl
end Go.Proofs
set_option maxRecDepth 100000
set_option linter.unusedVariables false
namespace Go.Proofs
open Go Go.Ev
section
variable (rk:Nat→Int) (th bk:Nat→Bool)
theorem x6n (r:Int):∀ (l:List Nat),(∀ j ∈ l,rk j ≤ r)→l.Pairwise (fun j i=>rk i ≤ rk j)→∀ k,k ∈ z8e rk th bk l r ↔ k ∈ l∧(th k || bk k) = true∧rk k = r
 | [],_,_,k=>by simp [z8e]
 | i :: l,h,hs,k=>by
  rw [List.pairwise_cons] at hs
  have hi:=h i List.mem_cons_self
  simp only [z8e]
  by_cases c:r > rk i
  ·rw [if_pos c]
   refine ⟨fun h=>by simp at h,fun ⟨h1,_,h3⟩=>?_⟩
   rcases List.mem_cons.1 h1 with rfl | h1
   ·omega
   ·have:=hs.1 k h1; omega
  ·rw [if_neg c]
   have he:rk i = r:=by omega
   have ih:=x6n r l (fun j hj=>h j (List.mem_cons_of_mem _ hj)) hs.2 k
   by_cases f:(!th i && !bk i) = true
   ·rw [if_pos f,ih]
    have f':(th i || bk i) = false:=by
     simp only [Bool.and_eq_true,Bool.not_eq_true'] at f
     rw [f.1,f.2]; rfl
    refine ⟨fun ⟨a,b,c⟩=>⟨List.mem_cons_of_mem _ a,b,c⟩,fun ⟨a,b,c⟩=>?_⟩
    rcases List.mem_cons.1 a with rfl | a
    ·rw [f'] at b; cases b
    ·exact ⟨a,b,c⟩
   ·rw [if_neg f,he,List.mem_cons,ih]
    have f':(th i || bk i) = true:=by
     cases h1:th i <;> cases h2:bk i <;> simp_all
    constructor
    ·rintro (rfl | ⟨a,b,c⟩)
     ·exact ⟨List.mem_cons_self,f',he⟩
     ·exact ⟨List.mem_cons_of_mem _ a,b,c⟩
    ·rintro ⟨a,b,c⟩
     rcases List.mem_cons.1 a with rfl | a
     ·exact .inl rfl
     ·exact .inr ⟨a,b,c⟩
theorem w1q (hp:∀ i,0 < rk i):∀ (l:List Nat),l.Pairwise (fun j i=>rk i ≤ rk j)→∀ k,k ∈ z8e rk th bk l 0 ↔ k ∈ l∧(th k || bk k) = true∧∀ j ∈ l,(th j || bk j) = true→rk j ≤ rk k
 | [],_,k=>by simp [z8e]
 | i :: l,hs,k=>by
  rw [List.pairwise_cons] at hs
  simp only [z8e]
  have:=hp i
  rw [if_neg (by omega)]
  have ih:=w1q hp l hs.2 k
  by_cases f:(!th i && !bk i) = true
  ·rw [if_pos f,ih]
   have f':(th i || bk i) = false:=by
    simp only [Bool.and_eq_true,Bool.not_eq_true'] at f
    rw [f.1,f.2]; rfl
   constructor
   ·rintro ⟨a,b,c⟩
    refine ⟨List.mem_cons_of_mem _ a,b,fun j hj hf=>?_⟩
    rcases List.mem_cons.1 hj with rfl | hj
    ·rw [f'] at hf; cases hf
    ·exact c j hj hf
   ·rintro ⟨a,b,c⟩
    rcases List.mem_cons.1 a with rfl | a
    ·rw [f'] at b; cases b
    ·exact ⟨a,b,fun j hj hf=>c j (List.mem_cons_of_mem _ hj) hf⟩
  ·rw [if_neg f,List.mem_cons,x6n rk th bk (rk i) l hs.1 hs.2 k]
   have f':(th i || bk i) = true:=by
    cases h1:th i <;> cases h2:bk i <;> simp_all
   constructor
   ·rintro (rfl | ⟨a,b,c⟩)
    ·refine ⟨List.mem_cons_self,f',fun j hj _=>?_⟩
     rcases List.mem_cons.1 hj with rfl | hj
     ·exact Int.le_refl _
     ·exact hs.1 j hj
    ·refine ⟨List.mem_cons_of_mem _ a,b,fun j hj _=>?_⟩
     rcases List.mem_cons.1 hj with rfl | hj
     ·omega
     ·have:=hs.1 j hj; omega
   ·rintro ⟨a,b,c⟩
    rcases List.mem_cons.1 a with rfl | a
    ·exact .inl rfl
    ·have h1:=c i List.mem_cons_self f'
     have h2:=hs.1 k a
     exact .inr ⟨a,b,by omega⟩
end
theorem x1i {rs:List Rul} (hrs:z1j rs) (i:Nat):0 < rkR rs i:=by
 unfold rkR
 cases hx:rs[i]? with
 | none=>decide
 | some x=>have:=(hrs.2.2 x (List.mem_of_getElem? hx)).1; show 0 < x.rank; omega
def y72 (rs:List Rul) (x:Prf × Prf):Int:=(z62 (rkR rs) (thR rs x.1 x.2) (thR rs x.2 x.1) (List.range rs.length) (-1) (-1) 0).2.2
theorem y6z {rs:List Rul} (hrs:z1j rs) (x:Prf × Prf) (k:Nat):k ∈ decides rs x ↔ k < rs.length∧(thR rs x.1 x.2 k || thR rs x.2 x.1 k) = true∧rkR rs k = y72 rs x:=by
 have h0:DInv (rkR rs) (thR rs x.1 x.2) (thR rs x.2 x.1) [] (-1) (-1) 0:=⟨.inl rfl,fun i hi=>by simp at hi,.inl ⟨rfl,fun i hi=>by simp at hi⟩,.inl ⟨rfl,fun i hi=>by simp at hi⟩⟩
 have q:=y5z (rkR rs) (thR rs x.1 x.2) (thR rs x.2 x.1) (x1i hrs) (List.range rs.length) [] _ _ _ h0 (fun i _ j hj=>by simp at hj) List.pairwise_lt_range
 have hm:∀ j,j ∈ (List.range rs.length).reverse++[] ↔ j < rs.length:=fun j=>by simp
 have hl:∀ j,j ∈ z05 rs ↔ j < rs.length:=fun j=>by rw [(y2e rs).mem_iff,List.mem_range]
 have hs:(z05 rs).Pairwise (fun j i=>rkR rs i ≤ rkR rs j):=(x13 rs).imp fun h=>by omega
 unfold decides
 rw [w1q _ _ _ (x1i hrs) _ hs,hl]
 constructor
 ·rintro ⟨a,b,c⟩
  refine ⟨a,b,?_⟩
  have h1:=q.le k ((hm k).2 a) b
  rcases q.top with h2 | ⟨j,h2,h3,h4⟩
  ·have:=x1i hrs k
   rw [h2] at h1; omega
  ·have h5:=c j ((hl j).2 ((hm j).1 h2)) h3
   show rkR rs k = (z62 _ _ _ _ _ _ _).2.2
   omega
 ·rintro ⟨a,b,c⟩
  refine ⟨a,b,fun j hj hf=>?_⟩
  have:=q.le j ((hm j).2 ((hl j).1 hj)) hf
  rw [c]
  exact this
def x2d (rs:List Rul) (x:Prf × Prf) (r:Int) (o:List Bool) (j:Nat):List Bool:=if (!o.getD j false && (rkR rs j == r)) = true then o.set j (thR rs x.1 x.2 j || thR rs x.2 x.1 j) else o
theorem w08 (rs:List Rul) (x:Prf × Prf) (r:Int) (o:List Bool) (j:Nat):(x2d rs x r o j).length = o.length:=by
 unfold x2d; split <;> simp
theorem w9s (rs:List Rul) (x:Prf × Prf) (r:Int) (o:List Bool) {j:Nat} (hj:j < o.length) (i:Nat):(x2d rs x r o j).getD i false = (o.getD i false || (decide (j = i) && ((rkR rs i == r) && (thR rs x.1 x.2 i || thR rs x.2 x.1 i)))):=by
 unfold x2d
 by_cases e:j = i
 ·subst e
  rw [decide_eq_true rfl,Bool.true_and]
  cases h1:o.getD j false with
  | true=>rw [if_neg (by simp),h1]; rfl
  | false =>
   cases h2:(rkR rs j == r) with
   | false=>rw [if_neg (by simp),h1]; rfl
   | true =>
    rw [if_pos (show (!false && true) = true from rfl)]
    simp [List.getD_eq_getElem?_getD,hj]
 ·rw [decide_eq_false e,Bool.false_and,Bool.or_false]
  split
  ·simp [List.getD_eq_getElem?_getD,List.getElem?_set_ne e]
  ·rfl
theorem x9s (rs:List Rul) (x:Prf × Prf) (r:Int):∀ (L:List Nat) (o:List Bool),(L.foldl (x2d rs x r) o).length = o.length
 | [],o=>rfl
 | j :: L,o=>by rw [List.foldl_cons,x9s rs x r L,w08]
theorem w3p (rs:List Rul) (x:Prf × Prf) (r:Int):∀ (L:List Nat) (o:List Bool),(∀ j ∈ L,j < o.length)→∀ i,(L.foldl (x2d rs x r) o).getD i false = (o.getD i false || (L.any (fun j=>decide (j = i)) && ((rkR rs i == r) && (thR rs x.1 x.2 i || thR rs x.2 x.1 i))))
 | [],o,_,i=>by simp
 | j :: L,o,h,i=>by
  rw [List.foldl_cons,w3p rs x r L _ (fun k hk=>by rw [w08]; exact h k (List.mem_cons_of_mem _ hk)) i,w9s rs x r o (h j List.mem_cons_self) i,List.any_cons,Bool.or_assoc,← Bool.and_or_distrib_right]
def y65 (rs:List Rul) (o:List Bool) (x:Prf × Prf):List Bool:=(List.range rs.length).foldl (x2d rs x (y72 rs x)) o
theorem w81 {rs:List Rul} (hrs:z1j rs) {o:List Bool} (ho:o.length = rs.length) (x:Prf × Prf) {i:Nat} (hi:i < rs.length):(y65 rs o x).getD i false = (o.getD i false || (decides rs x).contains i):=by
 unfold y65
 rw [w3p rs x _ _ o (fun j hj=>by rw [ho]; exact List.mem_range.1 hj) i,show (List.range rs.length).any (fun j=>decide (j = i)) = true from List.any_eq_true.2 ⟨i,List.mem_range.2 hi,decide_eq_true rfl⟩,Bool.true_and]
 congr 1
 rw [Bool.eq_iff_iff,List.contains_iff_mem,y6z hrs,Bool.and_eq_true,beq_iff_eq]
 exact ⟨fun ⟨a,b⟩=>⟨hi,b,a⟩,fun ⟨_,a,b⟩=>⟨b,a⟩⟩
theorem w3m (rs:List Rul) (o:List Bool) (x:Prf × Prf):(y65 rs o x).length = o.length:=x9s rs x _ _ o
theorem w3k (rs:List Rul):∀ (L:List (Prf × Prf)) (o:List Bool),(L.foldl (y65 rs) o).length = o.length
 | [],o=>rfl
 | x :: L,o=>by rw [List.foldl_cons,w3k rs L,w3m]
theorem w3l {rs:List Rul} (hrs:z1j rs) {i:Nat} (hi:i < rs.length):∀ (L:List (Prf × Prf)) (o:List Bool),o.length = rs.length→(L.foldl (y65 rs) o).getD i false = (o.getD i false || L.any fun x=>(decides rs x).contains i)
 | [],o,_=>by simp
 | x :: L,o,ho=>by
  rw [List.foldl_cons,w3l hrs hi L _ (by rw [w3m,ho]),w81 hrs ho x hi,List.any_cons,Bool.or_assoc]
theorem w7f {rs:List Rul} (hrs:z1j rs):csL.foldl (y65 rs) (List.replicate rs.length false) = z2l rs:=by
 have hl:=w3k rs csL (List.replicate rs.length false)
 rw [List.length_replicate] at hl
 apply List.ext_getElem?
 intro i
 rcases Nat.lt_or_ge i rs.length with hi | hi
 ·have h:=w3l hrs hi csL (List.replicate rs.length false) (by simp)
  have hl':i < (csL.foldl (y65 rs) (List.replicate rs.length false)).length:=by rw [hl]; exact hi
  rw [List.getElem?_eq_getElem hl']
  rw [List.getD_eq_getElem?_getD,List.getElem?_eq_getElem hl'] at h
  simp only [Option.getD_some] at h
  rw [h]
  unfold z2l
  rw [List.getElem?_map,List.getElem?_range hi]
  simp [List.getD_eq_getElem?_getD,hi]
 ·rw [List.getElem?_eq_none (by rw [hl]; exact hi),List.getElem?_eq_none (by rw [z9y]; exact hi)]
theorem w7w {rs:List Rul} {k:Nat} {x:Rul} (hk:rs[k]? = some x):(List.drop 1 (List.drop (k * 8) (z0c rs))).getD 0 .bad = I x.rank:=by
 have:=z4u hk
 unfold el at this
 rw [List.drop_zero] at this
 have h1:=congrArg (fun l=>l.getD 1 AV.bad) this
 simp only [z1d] at h1
 rw [List.getD_eq_getElem?_getD,List.getElem?_take_of_lt (by omega)] at h1
 rw [List.getD_eq_getElem?_getD,List.getElem?_drop]
 simpa using h1
theorem w9w {rs:List Rul} {k:Nat} (hk:k < rs.length):cI (List.drop 1 (List.drop (k * 8) (z0c rs))) 0 = rkR rs k:=by
 have hx:rs[k]? = some rs[k]:=List.getElem?_eq_getElem hk
 unfold cI
 rw [w7w hx]
 unfold rkR
 rw [hx]; rfl
theorem w9v {rs:List Rul} {k:Nat} (hk:k < rs.length):z1g (AV.ofVal (Value.int IntKind.i64 (0:Int))) ((List.drop 1 (List.drop (k * 8) (z0c rs))).getD 0 X) = true:=by
 have hx:rs[k]? = some rs[k]:=List.getElem?_eq_getElem hk
 show z1g _ ((List.drop 1 (List.drop (k * 8) (z0c rs))).getD 0 .bad) = true
 rw [w7w hx]; rfl
theorem w9u {rs:List Rul} {k:Nat} (hk:k < rs.length):decide (0 < (List.drop 1 (List.drop (k * 8) (z0c rs))).length) = true:=by
 have:=z03 (z02 rs) hk
 rw [List.length_drop]
 exact decide_eq_true (by omega)
theorem c48:Cts Tryz.B [(54,RPl yP),(70,R70),(82,R82),(83,R83),(86,R86)]:=(((((Cts.nil _).cons v7t).cons w73).cons w1s).cons w2l).cons v7v
theorem o48:(Tryz.X48 yP).Ones:=z0y Tryz.bok c48
theorem k48:CxOk (Tryz.X48 yP).cx:=z1e Tryz.bok c48
theorem w7z (m:Nat) (i j:Int):noHL 5 ([X,AV.ptr 0 0,X,X,X,AV.row 1 0 m m,AV.vs yP 120 Tok.none,I i,AV.ptr 2 0,AV.ptr 3 0,AV.ptr 4 0,I j]++List.replicate 92 X) = true:=by
 refine z6j ?_ (z2e 5 92)
 simp [noHL,noH,z5s]
theorem w8h (rs:List Rul) (o:List Bool) (p q:Prf) (kd v w r:Int):[some (HB.cells [AV.vs (z0c rs) rs.length Tok.none] 25),some (HB.cells (z07 o) 4),some (HB.cells (z0a p) 40),some (HB.cells (z0a q) 40),some (HB.cells [U kd,I v,I w,I r] 115)].all (okBlk 5) = true:=by
 simp [okBlk,noHB,noHL,noH,z0t,z5c,z04]
section
variable {rs:List Rul} (hrs:z1j rs) {Q:CR→Prop}
include hrs
theorem v7k (x:Prf × Prf) (kd v w r:Int) (i:Nat) (hi:i < 129600):∀ (d j:Nat) (o:List Bool),rs.length - j = d→j ≤ rs.length→o.length = rs.length →
  z0l (Tryz.X48 yP) (cd PP 48 [1,1,1,1,1,0,1,0,0]) ([X,AV.ptr 0 0,X,X,X,AV.row 1 0 rs.length rs.length,AV.vs yP 120 Tok.none,I ((i + 1:Nat):Int)]++List.replicate 96 X) ⟨[some (.cells [.vs (z0c rs) rs.length .none] 25),some (.cells (z07 (((List.range rs.length).drop j).foldl (x2d rs x r) o)) 4)],[],[]⟩ (z0d 0 (z0i (Tryz.X48 yP) (cd PP 48 [1,1,1,1,1,1]) (z0f (Tryz.X48 yP) 48 Q))) →
  z0l (Tryz.X48 yP) (cd PP 48 [1,1,1,1,1,0,1,0,0,1,0,0,1,1,1,0,0]) ([X,.ptr 0 0,X,X,X,.row 1 0 rs.length rs.length,.vs yP 120 .none,I i,.ptr 2 0,.ptr 3 0,.ptr 4 0,I j]++List.replicate 92 X) ⟨[some (.cells [.vs (z0c rs) rs.length .none] 25),some (.cells (z07 o) 4),some (.cells (z0a x.1) 40),some (.cells (z0a x.2) 40),some (.cells [U kd,I v,I w,I r] 115)],[],[]⟩ (z0d 2 (z0d 1 (z0i (Tryz.X48 yP) (cd PP 48 [1,1,1,1,1,0,1,0,0,1,1]) (z0r (Tryz.X48 yP) (cd PP 48 [1,1,1,1,1,0,1,0,0]) (z0d 0 (z0i (Tryz.X48 yP) (cd PP 48 [1,1,1,1,1,1]) (z0f (Tryz.X48 yP) 48 Q))))))):=by
 have hn:=hrs.2.1
 intro d
 induction d with
 | zero =>
  intro j o hd hj ho hQ
  have hj':j = rs.length:=by omega
  subst hj'
  rw [List.drop_of_length_le (by simp),List.foldl_nil] at hQ
  refine z0n (C:=Tryz.X48 yP) o48 k48 ?_
  rw [v4j,wA1 (a:=i) (by omega)]
  exact z0p (decide_eq_false (by omega)) (z0b (by simp [noHL,noH,z2f,z2e,z5s]) (z0b (by simp [okBlk,noHB,noHL,noH,z0t,z5c]) hQ))
 | succ d ih =>
  intro j o hd hj ho hQ
  have hlt:j < rs.length:=by omega
  have hlo:j < o.length:=by omega
  obtain ⟨y,hy⟩:∃ y,rs[j]? = some y:=⟨_,List.getElem?_eq_getElem hlt⟩
  have hym:=List.mem_of_getElem? hy
  have h1:thR rs x.1 x.2 j = hoT y.t x.1 x.2:=by simp only [thR,hy]
  have h2:thR rs x.2 x.1 j = hoT y.t x.2 x.1:=by simp only [thR,hy]
  rw [z5e hlt,List.foldl_cons] at hQ
  have hs:=ih (j + 1) (x2d rs x r o j) (by omega) (by omega) (by rw [w08]; exact ho) hQ
  have hm:x2d rs x r o j = if (!o.getD j false && (rkR rs j == r)) = true then o.set j (hoT y.t x.1 x.2 || hoT y.t x.2 x.1) else o:=by unfold x2d; rw [h1,h2]
  refine z0n (C:=Tryz.X48 yP) o48 k48 ?_
  rw [v4j,wA1 (a:=j) (by omega),Int.toNat_natCast,show 0 + j * 1 = j by omega,x1q o j hlo,w9w hlt,y5d hy,z6m,hoE,hoE]
  refine z0b (decide_eq_true (by omega)) (z0b (z0z _) (z0b (decide_eq_true hlt) (z0b (decide_eq_true (by rw [z8n]; omega)) (z0b (y7z o j hlo) ?_))))
  refine z0h (fun c1=>?_) (fun c1=>?_)
  ·refine z0b (z0z _) (z0b (decide_eq_true hlt) (z0b (decide_eq_true (z02 rs).symm) (z0b (w9u hlt) (z0b (w9v hlt) ?_))))
   refine z0h (fun c2=>?_) (fun c2=>?_)
   ·rw [c1,c2,if_pos (show (true && true) = true from rfl)] at hm
    refine z0b (z0z _) (z0b (decide_eq_true hlt) (z0b (decide_eq_true (z02 rs).symm) (z0b (decide_eq_true (x7z hlt)) (z0b (z2w y.t) (z0b (a32 y x.1 x.2 _) ⟨⟨⟨y.t,rfl,(hrs.1.2 y hym).1⟩,⟨_,rfl⟩,_,rfl⟩,rfl,?_⟩)))))
    refine z0b (z0z _) (z0b (decide_eq_true hlt) (z0b (decide_eq_true (z02 rs).symm) (z0b (decide_eq_true (x7z hlt)) (z0b (z2w y.t) (z0b (a32 y x.2 x.1 _) ⟨⟨⟨y.t,rfl,(hrs.1.2 y hym).1⟩,⟨_,rfl⟩,_,rfl⟩,rfl,?_⟩)))))
    refine z0h (fun c3=>?_) (fun c3=>?_)
    ·rw [c3,Bool.true_or] at hm
     rw [hm,← x1c _ _ _ hlo] at hs
     refine z0b (z0z _) (z0b (decide_eq_true hlt) (z0b (decide_eq_true (by rw [z8n]; omega)) (z0b (w7z _ _ _) (z0b ?_ hs))))
     rw [x1c _ _ _ hlo]
     exact w8h rs _ x.1 x.2 kd v w r
    ·rw [c3,Bool.false_or] at hm
     rw [hm,← x1c _ _ _ hlo] at hs
     refine z0b (z0z _) (z0b (decide_eq_true hlt) (z0b (decide_eq_true (by rw [z8n]; omega)) (z0b (w7z _ _ _) (z0b ?_ hs))))
     rw [x1c _ _ _ hlo]
     exact w8h rs _ x.1 x.2 kd v w r
   ·rw [c2,Bool.and_false,if_neg (by simp)] at hm
    rw [hm] at hs
    exact z0b (w7z _ _ _) (z0b (w8h rs o x.1 x.2 kd v w r) hs)
  ·rw [c1,Bool.false_and,if_neg (by simp)] at hm
   rw [hm] at hs
   exact z0b (w7z _ _ _) (z0b (w8h rs o x.1 x.2 kd v w r) hs)
theorem v7q {rl:List AV} (hrl:noHL 2 rl = true) {o:List Bool} (ho:o.length ≤ 1000):∀ (d i:Nat) (acc:List Nat) (k:Nat) (T:List (Nat × (Nat × Nat))),o.length - i = d→i ≤ o.length→acc.length ≤ i→T[k]? = some (acc.length,1,3)→Q (.ret (.tup [.vs (encD (acc++((List.range o.length).drop i).filter fun i=>!o.getD i false)) (acc++((List.range o.length).drop i).filter fun i=>!o.getD i false).length .none,I 0])) →
  z0l (Tryz.X48 yP) (cd PP 48 [1,1,1,1,1,1,1,0,1,0,0]) ([X,X,X,X,X,.row 1 0 o.length o.length,X,X,X,X,X,X,X,X,.vs (encD acc) acc.length (.own k),I i]++List.replicate 88 X) ⟨[some (.cells rl 25),some (.cells (z07 o) 4)],T,[]⟩ (z0d 4 (z0i (Tryz.X48 yP) (cd PP 48 [1,1,1,1,1,1,1,1]) (z0f (Tryz.X48 yP) 48 Q))):=by
 have _:=hrs
 have hb:[some (HB.cells rl 25),some (HB.cells (z07 o) 4)].all (okBlk 2) = true:=by simp [okBlk,noHB,hrl,z5c]
 have he:∀ (a:List Nat) (n:Nat) (t:Tok) (i:Int),noHL 2 ([X,X,X,X,X,AV.row 1 0 o.length o.length,X,X,X,X,X,X,X,X,AV.vs (encD a) n t,I i]++List.replicate 88 X) = true:=fun a n t i=>z6j (by simp [noHL,noH,z1t]) (z2e 2 88)
 intro d
 induction d with
 | zero =>
  intro i acc k T hd hi ha hT hQ
  have hi':i = o.length:=by omega
  subst hi'
  rw [List.drop_of_length_le (by simp),List.filter_nil,List.append_nil] at hQ
  refine z0n (C:=Tryz.X48 yP) o48 k48 ?_
  rw [v4h]
  refine z0p (decide_eq_false (by omega)) ?_
  exact x9q _ _ acc acc.length k Q hQ
 | succ d ih =>
  intro i acc k T hd hi ha hT hQ
  have hlt:i < o.length:=by omega
  rw [z5e hlt] at hQ
  obtain ⟨t1,t2⟩:=y80 (1,1,3) (acc.length + 1,1,3) hT
  refine z0n (C:=Tryz.X48 yP) o48 k48 ?_
  rw [v4h,wA1 (a:=i) (by omega),Int.toNat_natCast,show 0 + i * 1 = i by omega,x1q o i hlt,y77]
  refine z0b (decide_eq_true (by omega)) (z0b (z0z _) (z0b (decide_eq_true hlt) (z0b (decide_eq_true (by rw [z8n]; omega)) (z0b (y7z o i hlt) ?_))))
  refine z0h (fun h=>?_) (fun h=>?_)
  ·rw [List.filter_cons_of_pos (p:=fun i=>!o.getD i false) h,List.append_cons] at hQ
   refine z0b (decide_eq_true (by omega)) (z0b (decide_eq_true (by omega)) (z0b (decide_eq_true (by rw [z4v]; omega)) (z0b (decide_eq_true t1) (z0b (he _ _ _ _) (z0b hb ?_)))))
   have:=ih (i + 1) (acc++[i]) k ((T++[(1,1,3)]).set k (acc.length + 1,1,3)) (by omega) (by omega) (by simp; omega) (by rw [t2,List.length_append]; rfl) hQ
   rw [List.length_append] at this
   exact this
  ·rw [List.filter_cons_of_neg (by rw [h]; simp)] at hQ
   exact z0b (he _ _ _ _) (z0b hb (ih (i + 1) acc k T (by omega) (by omega) (by omega) hT hQ))
theorem v7p {rl:List AV} (hrl:noHL 2 rl = true) {o:List Bool} (ho:o.length ≤ 1000):∀ (d i:Nat),o.length - i = d→i ≤ o.length→Q (.ret (.tup [.vs (encD (((List.range o.length).drop i).filter fun i=>!o.getD i false)) (((List.range o.length).drop i).filter fun i=>!o.getD i false).length (tkZ (((List.range o.length).drop i).filter fun i=>!o.getD i false)),I 0])) →
  z0l (Tryz.X48 yP) (cd PP 48 [1,1,1,1,1,1,1,0,1,0,0]) ([X,X,X,X,X,.row 1 0 o.length o.length,X,X,X,X,X,X,X,X,.vs [] 0 .zero,I i]++List.replicate 88 X) ⟨[some (.cells rl 25),some (.cells (z07 o) 4)],[],[]⟩ (z0d 4 (z0i (Tryz.X48 yP) (cd PP 48 [1,1,1,1,1,1,1,1]) (z0f (Tryz.X48 yP) 48 Q))):=by
 have _:=hrs
 have hb:[some (HB.cells rl 25),some (HB.cells (z07 o) 4)].all (okBlk 2) = true:=by simp [okBlk,noHB,hrl,z5c]
 intro d
 induction d with
 | zero =>
  intro i hd hi hQ
  have hi':i = o.length:=by omega
  subst hi'
  rw [List.drop_of_length_le (by simp),List.filter_nil] at hQ
  refine z0n (C:=Tryz.X48 yP) o48 k48 ?_
  rw [v4g]
  exact z0p (decide_eq_false (by omega)) hQ
 | succ d ih =>
  intro i hd hi hQ
  have hlt:i < o.length:=by omega
  rw [z5e hlt] at hQ
  refine z0n (C:=Tryz.X48 yP) o48 k48 ?_
  rw [v4g,wA1 (a:=i) (by omega),Int.toNat_natCast,show 0 + i * 1 = i by omega,x1q o i hlt]
  refine z0b (decide_eq_true (by omega)) (z0b (z0z _) (z0b (decide_eq_true hlt) (z0b (decide_eq_true (by rw [z8n]; omega)) (z0b (y7z o i hlt) ?_))))
  refine z0h (fun h=>?_) (fun h=>?_)
  ·rw [List.filter_cons_of_pos (p:=fun i=>!o.getD i false) h,y73] at hQ
   refine z0b hb ?_
   exact v7q hrs hrl ho d (i + 1) [i] 1 [(1,1,3),(1,1,3)] (by omega) (by omega) (by simp) rfl hQ
  ·rw [List.filter_cons_of_neg (by rw [h]; simp)] at hQ
   exact z0b hb (ih (i + 1) (by omega) (by omega) hQ)
section
attribute [local irreducible] csL z2i
theorem l48:∀ (d i:Nat) (o:List Bool),129600 - i = d→i ≤ 129600→o.length = rs.length→Q (.ret (.tup [.vs (encD (y54 ((csL.drop i).foldl (y65 rs) o))) (y54 ((csL.drop i).foldl (y65 rs) o)).length (tkZ (y54 ((csL.drop i).foldl (y65 rs) o))),I 0])) →
  z0l (Tryz.X48 yP) (cd PP 48 [1,1,1,1,1,0,1,0,0]) ([X,.ptr 0 0,X,X,X,.row 1 0 rs.length rs.length,.vs yP 120 .none,I i]++List.replicate 96 X) ⟨[some (.cells [.vs (z0c rs) rs.length .none] 25),some (.cells (z07 o) 4)],[],[]⟩ (z0d 0 (z0i (Tryz.X48 yP) (cd PP 48 [1,1,1,1,1,1]) (z0f (Tryz.X48 yP) 48 Q))):=by
 have hn:=hrs.2.1
 intro d
 induction d with
 | zero =>
  intro i o hd hi ho hQ
  have hi':i = 129600:=by omega
  subst hi'
  rw [List.drop_eq_nil_of_le (by rw [w8m]; omega),List.foldl_nil] at hQ
  refine z0n (C:=Tryz.X48 yP) o48 k48 ?_
  rw [v4i]
  have hc1:decide (((129600:Nat):Int) < (129600:Int)) = false:=decide_eq_false (by omega)
  rw [hc1,w9x]
  refine z0b (by simp [okBlk,noHB,noHL,noH,z0t,z5c]) ?_
  have:=v7p (Q:=Q) hrs (rl:=[.vs (z0c rs) rs.length .none]) (by simp [noHL,noH,z0t]) (o:=o) (by omega) o.length 0 (by omega) (by omega) hQ
  rw [ho] at this
  exact this
 | succ d ih =>
  intro i o hd hi ho hQ
  have hlt:i < 129600:=by omega
  have hc:=v1o hlt
  rw [hc,List.foldl_cons] at hQ
  refine z0n (C:=Tryz.X48 yP) o48 k48 ?_
  rw [v4i,Int.toNat_natCast,x4m]
  have hc1:decide ((i:Int) < (129600:Int)) = true:=decide_eq_true (by omega)
  rw [hc1,v1q]
  refine ⟨⟨rfl,rfl,by omega,by omega⟩,⟨⟨rs,rfl,rfl,hrs⟩,⟨(z2i i).1,rfl⟩,(z2i i).2,rfl⟩,z0b (w7z _ _ _) (z0b (w8h rs o _ _ _ _ _ _) ?_)⟩
  exact v7k hrs (z2i i) _ _ _ _ i hlt rs.length 0 o (by omega) (by omega) ho (ih (i + 1) _ (by omega) (by omega) (by rw [List.drop_zero,x9s]; exact ho) hQ)
end
end
section
attribute [local irreducible] csL z2i wpF wpC
theorem v7w:Ct Tryz.B.c0 48 R47:=Ct.of_wp (l:=[(54,RPl yP),(70,R70),(82,R82),(83,R83),(86,R86)]) (lm:=v4x) (tp:=[1]) (ct:=[]) (sm:=[(7,2),(12,5),(20,2)]) Tryz.bok c48 ⟨_,_,Tryz.func48,rfl⟩ fun args D r hR hD=>by
 unfold R47 at hR
 split at hR <;> cases hR
 obtain ⟨rs,rfl,rfl,hw⟩:=hD
 refine ⟨by simp [noHL,noH,z0t],?_⟩
 rw [show z0e 0 [AV.agg [.vs (z0c rs) rs.length .none]] = [AV.agg [.vs (z0c rs) rs.length .none]] by simp [z0e,scrub,z1f,Tok.scrub],z0j z0u]
 show wpF (Tryz.X48 yP) 48 _ _
 rw [v48,z0j z0u]
 unfold z4b
 refine ⟨⟨rs,rfl,rfl,hw⟩,z0h (fun h=>?_) (fun h=>?_)⟩
 ·have h:¬ chk rs = 0:=by simpa using h
  rw [if_neg h]; rfl
 ·have h:chk rs = 0:=by simpa using h
  obtain ⟨hrs,_⟩:=z8x hw h
  have hn:=hrs.2.1
  rw [if_pos h,x1s,← w7f hrs,show List.map AV.ofVal (Value.bool false).cells.toList = [AV.bool false] from rfl,x44]
  refine z0b (decide_eq_true (by omega)) (z0b (decide_eq_true (by omega)) (z0b (decide_eq_true (by omega)) ⟨trivial,z0b (by simp [noHL,noH,z2f,z2e,z5s]) (z0b (by simp [okBlk,noHB,noHL,noH,z0t,z5c]) ?_)⟩))
  have hl:=l48 hrs (Q:=fun r'=>r' = CR.ret (AV.tup [AV.vs (encD (y54 (csL.foldl (y65 rs) (List.replicate rs.length false)))) (y54 (csL.foldl (y65 rs) (List.replicate rs.length false))).length (tkZ (y54 (csL.foldl (y65 rs) (List.replicate rs.length false)))),I 0])) 129600 0 (List.replicate rs.length false) (by omega) (by omega) (by simp)
  rw [List.drop_zero] at hl
  exact hl rfl
end
end Go.Proofs
