/- Contracts of functions of the program and of the reference. -/
import Derived.Test.YtljjkomdibkjpaaGreatDoorK9
import Derived.Test.YtljjkomdibkjpaaGreatDoorAliveZ
set_option linter.unusedVariables false
set_option linter.unusedSimpArgs false
set_option maxRecDepth 100000
set_option linter.unusedVariables false
namespace Go.Proofs
open Go Go.Ev
def R20:Spc:=fun args=>match args with
 | []=>some (True,rB true)
 | _=>none
def w0w (a b:Int):Int:=if a < b then -1 else if a > b then 1 else 0
def R29:Spc:=fun args=>match args with
 | [.int .i64 a,.int .i64 b]=>some (True,rI (w0w a b))
 | _=>none
noncomputable def Tryz.X29:WCx:=Tryz.B.wcx []
noncomputable def l7:List (FuncId × Spc):=[(20,R20),(24,R24),(28,R28),(29,R29),(30,R30)]
def lm6:List (Nat × List Nat):=[(6,[7,8,9,10,11,12]),(10,[7,9,11,12])]
noncomputable def Tryz.X6:WCx:=Tryz.B.wcx l7 lm6 [] [6,10] [(6,6),(10,6)]
theorem v29 (a b:Int) (Q:CR→Prop):wpF Tryz.X29 29 [I a,I b] Q =
 (cIf (decide (a < b)) (Q (CR.ret (I (-1)))) (cIf (decide (a > b)) (Q (CR.ret (I 1))) (Q (CR.ret (I 0))))):=by kernel_rfl
theorem v6 (l:List AV) (len:Nat) (p q:Prf) (Q:CR→Prop):wpF Tryz.X6 6 [.agg [.vs l len .none],.agg (z0a p),.agg (z0a q)] Q =
 ((∃ (rs:List Rul),l = z0c rs∧len = rs.length∧z1h rs∧(0:Int) ≤ (200:Int)∧(200:Int) ≤ (1000:Int))∧cIf (!z0g z0c (y5v (200:Int)) false l) (True∧Q (CR.ret (Bo true))) (((∃ (rs:List Rul),l = z0c rs∧len = rs.length∧z1h rs)∧(∃ (p_1:Prf),(z0a p) = z0a p_1)∧∃ (q_1:Prf),(z0a q) = z0a q_1)∧((∃ (rs:List Rul),l = z0c rs∧len = rs.length∧z1h rs)∧(∃ (p:Prf),(z0a q) = z0a p)∧∃ (q:Prf),(z0a p) = z0a q)∧((∃ (rs:List Rul),l = z0c rs∧len = rs.length∧z1h rs)∧(∃ (p_1:Prf),(z0a p) = z0a p_1)∧∃ (q:Prf),(z0a p) = z0a q)∧cIf ([some (HB.cells [AV.vs l len Tok.none] 25),some (HB.cells (z0a p) 40),some (HB.cells (z0a q) 40),some (HB.cells [AV.int IntKind.u8 (dvD l (z0a p) (z0a q)).fst,AV.int IntKind.i64 (dvD l (z0a p) (z0a q)).snd.fst,AV.int IntKind.i64 (dvD l (z0a p) (z0a q)).snd.snd.fst] 42),some (HB.cells [AV.int IntKind.u8 (dvD l (z0a q) (z0a p)).fst,AV.int IntKind.i64 (dvD l (z0a q) (z0a p)).snd.fst,AV.int IntKind.i64 (dvD l (z0a q) (z0a p)).snd.snd.fst] 42),some (HB.cells [AV.int IntKind.u8 (dvD l (z0a p) (z0a p)).fst,AV.int IntKind.i64 (dvD l (z0a p) (z0a p)).snd.fst,AV.int IntKind.i64 (dvD l (z0a p) (z0a p)).snd.snd.fst] 42)].all (okBlk 6)) (z0k Tryz.X6 (cd Tryz.X6.P 6 [1,1,1,1,1]) ([X,X,X,X,X,X,X,AV.ptr 3 0,AV.int IntKind.i64 (dvD l (z0a p) (z0a q)).snd.snd.snd,AV.ptr 4 0,AV.int IntKind.i64 (dvD l (z0a q) (z0a p)).snd.snd.snd,AV.ptr 5 0,AV.int IntKind.i64 (dvD l (z0a p) (z0a p)).snd.snd.snd]++List.replicate 122 X) (St.mk [some (HB.cells [AV.vs l len Tok.none] 25),some (HB.cells (z0a p) 40),some (HB.cells (z0a q) 40),some (HB.cells [AV.int IntKind.u8 (dvD l (z0a p) (z0a q)).fst,AV.int IntKind.i64 (dvD l (z0a p) (z0a q)).snd.fst,AV.int IntKind.i64 (dvD l (z0a p) (z0a q)).snd.snd.fst] 42),some (HB.cells [AV.int IntKind.u8 (dvD l (z0a q) (z0a p)).fst,AV.int IntKind.i64 (dvD l (z0a q) (z0a p)).snd.fst,AV.int IntKind.i64 (dvD l (z0a q) (z0a p)).snd.snd.fst] 42),some (HB.cells [AV.int IntKind.u8 (dvD l (z0a p) (z0a p)).fst,AV.int IntKind.i64 (dvD l (z0a p) (z0a p)).snd.fst,AV.int IntKind.i64 (dvD l (z0a p) (z0a p)).snd.snd.fst] 42)] [] []) (z0f Tryz.X6 6 Q)) False)):=by kernel_rfl
theorem v6a (l:List AV) (len:Nat) (p q:Prf) (k k2 a b c d kx xa xb e f g:Int) (Q:CR→Prop):wpC Tryz.X6 (cd PP 6 [1,1,1,1,1]) ([X,X,X,X,X,X,X,.ptr 3 0,I e,.ptr 4 0,I f,.ptr 5 0,I g]++List.replicate 122 X) ⟨[some (.cells [.vs l len .none] 25),some (.cells (z0a p) 40),some (.cells (z0a q) 40),some (.cells [U k,I a,I b] 42),some (.cells [U k2,I c,I d] 42),some (.cells [U kx,I xa,I xb] 42)],[],[]⟩ (z0f Tryz.X6 6 Q) =
 (cIf (e != f) (Q (CR.ret (Bo false))) (cIf (e == (0:Int)) (cIf (a != d) (Q (CR.ret (Bo false))) (cIf (b != c) (Q (CR.ret (Bo false))) (cIf (e != (0:Int)) (True∧Q (CR.ret (Bo (k == (0:Int) && (a == (0:Int) && (b == (0:Int) && true)))))) (cIf ([some (HB.cells [AV.vs l len Tok.none] 25),some (HB.cells (z0a p) 40),some (HB.cells (z0a q) 40),some (HB.cells [U k,I a,I b] 42),some (HB.cells [U k2,I c,I d] 42),some (HB.cells [U kx,I xa,I xb] 42)].all (okBlk 6)) (z0k Tryz.X6 (cd PP 6 [1,1,1,1,1,1,1]) ([X,X,X,X,X,X,X,AV.ptr 3 0,X,AV.ptr 4 0,X,AV.ptr 5 0,I g]++List.replicate 122 X) (St.mk [some (HB.cells [AV.vs l len Tok.none] 25),some (HB.cells (z0a p) 40),some (HB.cells (z0a q) 40),some (HB.cells [U k,I a,I b] 42),some (HB.cells [U k2,I c,I d] 42),some (HB.cells [U kx,I xa,I xb] 42)] [] []) (z0f Tryz.X6 6 Q)) False)))) (cIf (e != (0:Int)) (True∧Q (CR.ret (Bo (k == (0:Int) && (a == (0:Int) && (b == (0:Int) && true)))))) (cIf ([some (HB.cells [AV.vs l len Tok.none] 25),some (HB.cells (z0a p) 40),some (HB.cells (z0a q) 40),some (HB.cells [U k,I a,I b] 42),some (HB.cells [U k2,I c,I d] 42),some (HB.cells [U kx,I xa,I xb] 42)].all (okBlk 6)) (z0k Tryz.X6 (cd PP 6 [1,1,1,1,1,1,1]) ([X,X,X,X,X,X,X,AV.ptr 3 0,X,AV.ptr 4 0,X,AV.ptr 5 0,I g]++List.replicate 122 X) (St.mk [some (HB.cells [AV.vs l len Tok.none] 25),some (HB.cells (z0a p) 40),some (HB.cells (z0a q) 40),some (HB.cells [U k,I a,I b] 42),some (HB.cells [U k2,I c,I d] 42),some (HB.cells [U kx,I xa,I xb] 42)] [] []) (z0f Tryz.X6 6 Q)) False)))):=by kernel_rfl
theorem w6d (l:List AV) (len:Nat) (p q:Prf) (a b c d kx xa xb g:Int) (Q:CR→Prop):wpC Tryz.X6 (cd PP 6 [1,1,1,1,1,1,1]) ([X,X,X,X,X,X,X,.ptr 3 0,X,.ptr 4 0,X,.ptr 5 0,I g]++List.replicate 122 X) ⟨[some (.cells [.vs l len .none] 25),some (.cells (z0a p) 40),some (.cells (z0a q) 40),some (.cells [U 0,I a,I b] 42),some (.cells [U 0,I c,I d] 42),some (.cells [U kx,I xa,I xb] 42)],[],[]⟩ (z0f Tryz.X6 6 Q) =
 (True∧cIf (decide (a ≥ (0:Int)) == false) (cIf (g == (0:Int)) (cIf (kx == (0:Int)) (Q (CR.ret (Bo true))) (Q (CR.ret (Bo (kx == (3:Int)))))) (Q (CR.ret (Bo false)))) (Q (CR.ret (Bo false)))):=by kernel_rfl
theorem w6c (l:List AV) (len:Nat) (p q:Prf) (a b c d kx xa xb g:Int) (Q:CR→Prop):wpC Tryz.X6 (cd PP 6 [1,1,1,1,1,1,1]) ([X,X,X,X,X,X,X,.ptr 3 0,X,.ptr 4 0,X,.ptr 5 0,I g]++List.replicate 122 X) ⟨[some (.cells [.vs l len .none] 25),some (.cells (z0a p) 40),some (.cells (z0a q) 40),some (.cells [U 1,I a,I b] 42),some (.cells [U 2,I c,I d] 42),some (.cells [U kx,I xa,I xb] 42)],[],[]⟩ (z0f Tryz.X6 6 Q) =
 (True∧cIf (decide (a ≥ (0:Int)) == true) (cIf (g == (0:Int)) (cIf (kx == (0:Int)) (Q (CR.ret (Bo true))) (Q (CR.ret (Bo (kx == (3:Int)))))) (Q (CR.ret (Bo false)))) (Q (CR.ret (Bo false)))):=by kernel_rfl
theorem w6b (l:List AV) (len:Nat) (p q:Prf) (a b c d kx xa xb g:Int) (Q:CR→Prop):wpC Tryz.X6 (cd PP 6 [1,1,1,1,1,1,1]) ([X,X,X,X,X,X,X,.ptr 3 0,X,.ptr 4 0,X,.ptr 5 0,I g]++List.replicate 122 X) ⟨[some (.cells [.vs l len .none] 25),some (.cells (z0a p) 40),some (.cells (z0a q) 40),some (.cells [U 2,I a,I b] 42),some (.cells [U 1,I c,I d] 42),some (.cells [U kx,I xa,I xb] 42)],[],[]⟩ (z0f Tryz.X6 6 Q) =
 (True∧cIf (decide (a ≥ (0:Int)) == false) (cIf (g == (0:Int)) (cIf (kx == (0:Int)) (Q (CR.ret (Bo true))) (Q (CR.ret (Bo (kx == (3:Int)))))) (Q (CR.ret (Bo false)))) (Q (CR.ret (Bo false)))):=by kernel_rfl
theorem w6a (l:List AV) (len:Nat) (p q:Prf) (a b c d kx xa xb g:Int) (Q:CR→Prop):wpC Tryz.X6 (cd PP 6 [1,1,1,1,1,1,1]) ([X,X,X,X,X,X,X,.ptr 3 0,X,.ptr 4 0,X,.ptr 5 0,I g]++List.replicate 122 X) ⟨[some (.cells [.vs l len .none] 25),some (.cells (z0a p) 40),some (.cells (z0a q) 40),some (.cells [U 3,I a,I b] 42),some (.cells [U 3,I c,I d] 42),some (.cells [U kx,I xa,I xb] 42)],[],[]⟩ (z0f Tryz.X6 6 Q) =
 (True∧cIf (decide (a ≥ (0:Int)) == true) (cIf (g == (0:Int)) (cIf (kx == (0:Int)) (Q (CR.ret (Bo true))) (Q (CR.ret (Bo (kx == (3:Int)))))) (Q (CR.ret (Bo false)))) (Q (CR.ret (Bo false)))):=by kernel_rfl
end Go.Proofs
set_option maxRecDepth 100000
set_option linter.unusedVariables false
namespace Go.Proofs
open Go Go.Ev
theorem x78:Ct Tryz.B.c0 20 R20 where
 body:=⟨_,_,Tryz.func20,rfl⟩
 ok:=fun args D r hR hD=>by
  unfold R20 at hR
  split at hR <;> cases hR
  exact ⟨rfl,fun G w us h1 h2 h3=>Tryz.aliveOk G w us h1 h2 h3⟩
theorem w8a:Ct Tryz.B.c0 29 R29:=Ct.of_wp (lm:=[]) Tryz.bok (Cts.nil _) ⟨_,_,Tryz.func29,rfl⟩ fun args D r hR hD=>by
 unfold R29 at hR
 split at hR <;> cases hR
 refine ⟨rfl,?_⟩
 show wpF Tryz.X29 29 [I _,I _] _
 rw [v29]
 unfold w0w
 refine z0h (fun h=>?_) (fun h=>z0h (fun h2=>?_) (fun h2=>?_))
 ·rw [if_pos (of_decide_eq_true h)]
 ·rw [if_neg (of_decide_eq_false h),if_pos (of_decide_eq_true h2)]
 ·rw [if_neg (of_decide_eq_false h),if_neg (of_decide_eq_false h2)]
theorem c7:Cts Tryz.B l7:=(((((Cts.nil _).cons w1u).cons w8a).cons x9z).cons x77).cons x78
structure Sim (p q p' q':Prf):Prop where
 a:p'.cl = p.cl∧p'.vi = p.vi∧p'.ho = p.ho∧p'.de = p.de∧p'.mo = p.mo
 b:q'.cl = q.cl∧q'.vi = q.vi∧q'.ho = q.ho∧q'.de = q.de∧q'.mo = q.mo
 c:(p'.cr < q'.cr ↔ p.cr < q.cr)∧(q'.cr < p'.cr ↔ q.cr < p.cr)
 l:(p'.le < q'.le ↔ p.le < q.le)∧(q'.le < p'.le ↔ q.le < p.le)
theorem Sim.at' {p q p' q':Prf} (h:Sim p q p' q') (a:Int):(atI a p' < atI a q' ↔ atI a p < atI a q)∧(atI a q' < atI a p' ↔ atI a q < atI a p):=by
 obtain ⟨a1,a2,a3,a4,a5⟩:=h.a
 obtain ⟨b1,b2,b3,b4,b5⟩:=h.b
 unfold atI
 rw [a1,a2,a3,a4,a5,b1,b2,b3,b4,b5]
 repeat' split
 all_goals first
  | exact h.c
  | exact h.l
  | exact ⟨Iff.rfl,Iff.rfl⟩
theorem y2t (rs:List Rul) (p q:Prf):dvD (z0c rs) (z0a p) (z0a q) = z1x rs p q:=by
 unfold dvD on3
 rw [z0j z0u,z0j z0w,z0j z0w]
theorem y35 (rk:Nat→Int) (th:Nat→Bool):∀ (l:List Nat) (v R:Int),(z2g rk th th l v v R).1 = (z2g rk th th l v v R).2
 | [],v,R=>rfl
 | i :: l,v,R=>by
  simp only [z2g]
  by_cases h1:R > rk i
  ·simp only [if_pos h1]
  ·simp only [if_neg h1]
   by_cases h2:(!th i && !th i) = true
   ·simp only [if_pos h2]; exact y35 rk th l v R
   ·simp only [if_neg h2]; exact y35 rk th l _ _
theorem x4t (rs:List Rul) (p q:Prf):z2c rs q p = ((z2c rs p q).2,(z2c rs p q).1):=y34 (rkR rs) (thR rs p q) (thR rs q p) (z05 rs) (-1) (-1) 0
theorem x2v (rs:List Rul) (p q:Prf):z1v rs q p = z1v rs p q:=by
 unfold z1v
 repeat' split
 all_goals omega
theorem x2w {rs:List Rul} {p q:Prf} (h:z1v rs p q = 0):z1v rs p p = 0:=by
 have hc:=y2y h
 have h0:∀ p,pOk p = 0 ∨ pOk p = 1:=fun p=>by unfold pOk; split <;> simp
 unfold z1v at h ⊢
 rw [if_pos hc] at h ⊢
 rcases h0 p with h1 | h1 <;> rcases h0 q with h2 | h2 <;> rw [h1,h2] at h <;> simp at h <;> rw [h1] <;> rfl
theorem w1y (rs:List Rul) (p q:Prf) (k a b k2 c d kx xa xb:Int):[some (HB.cells [AV.vs (z0c rs) rs.length Tok.none] 25),some (HB.cells (z0a p) 40),some (HB.cells (z0a q) 40),some (HB.cells [U k,I a,I b] 42),some (HB.cells [U k2,I c,I d] 42),some (HB.cells [U kx,I xa,I xb] 42)].all (okBlk 6) = true:=by
 simp [okBlk,noHB,noHL,noH,z0t,z04]
abbrev hs6 (rs:List Rul) (p q:Prf) (k a b k2 c d kx xa xb:Int):List (Option HB):=[some (HB.cells [AV.vs (z0c rs) rs.length Tok.none] 25),some (HB.cells (z0a p) 40),some (HB.cells (z0a q) 40),some (HB.cells [U k,I a,I b] 42),some (HB.cells [U k2,I c,I d] 42),some (HB.cells [U kx,I xa,I xb] 42)]
theorem x8h (rs:List Rul) (p q:Prf) {a b c kx k k2:Int} (hk:kx = 0 ∨ kx = 3) (hk1:k = z01 a b) (hk2:k2 = z01 b a) :
  z0k Tryz.X6 (cd PP 6 [1,1,1,1,1,1,1]) ([X,X,X,X,X,X,X,.ptr 3 0,X,.ptr 4 0,X,.ptr 5 0,I 0]++List.replicate 122 X) ⟨hs6 rs p q k a b k2 b a kx c c,[],[]⟩ (z0f Tryz.X6 6 fun r'=>r' = rB true):=by
 refine z3n (C:=Tryz.X6) (z0y Tryz.bok c7) (z1e Tryz.bok c7) ?_
 have hkx:(kx == (0:Int)) = true ∨ (kx == (0:Int)) = false∧(kx == (3:Int)) = true:=by
  rcases hk with h | h
  ·exact .inl (by simp [h])
  ·exact .inr ⟨by simp [h],by simp [h]⟩
 have tail:cIf ((0:Int) == 0) (cIf (kx == (0:Int)) (CR.ret (Bo true) = rB true) (CR.ret (Bo (kx == (3:Int))) = rB true)) (CR.ret (Bo false) = rB true):=by
  refine z0b rfl ?_
  rcases hkx with h | ⟨h,h2⟩
  ·exact z0b h rfl
  ·exact z0p h (by rw [h2])
 unfold z01 at hk1 hk2
 by_cases ha:a ≥ 0 <;> by_cases hb:b ≥ 0
 ·rw [if_pos ⟨ha,hb⟩] at hk1
  rw [if_pos ⟨hb,ha⟩] at hk2
  rw [hk1,hk2,w6a]
  exact ⟨trivial,z0b (by simp [ha]) tail⟩
 ·rw [if_neg (fun h=>hb h.2),if_pos ha] at hk1
  rw [if_neg (fun h=>hb h.1),if_neg hb,if_pos ha] at hk2
  rw [hk1,hk2,w6c]
  exact ⟨trivial,z0b (by simp [ha]) tail⟩
 ·rw [if_neg (fun h=>ha h.1),if_neg ha,if_pos hb] at hk1
  rw [if_neg (fun h=>ha h.2),if_pos hb] at hk2
  rw [hk1,hk2,w6b]
  exact ⟨trivial,z0b (by simp; omega) tail⟩
 ·rw [if_neg (fun h=>ha h.1),if_neg ha,if_neg hb] at hk1
  rw [if_neg (fun h=>ha h.2),if_neg hb,if_neg ha] at hk2
  rw [hk1,hk2,w6d]
  exact ⟨trivial,z0b (by simp; omega) tail⟩
theorem x5l (rs:List Rul) (p q:Prf) {k a b k2 c d kx xa xb e f g:Int} (h:e = f∧(e = 0∧c = b∧d = a∧k = z01 a b∧k2 = z01 b a∧xa = xb∧kx = z01 xa xb∧g = 0 ∨ ¬ e = 0∧k = 0∧a = 0∧b = 0)) :
  z0k Tryz.X6 (cd PP 6 [1,1,1,1,1]) ([X,X,X,X,X,X,X,.ptr 3 0,I e,.ptr 4 0,I f,.ptr 5 0,I g]++List.replicate 122 X) ⟨hs6 rs p q k a b k2 c d kx xa xb,[],[]⟩ (z0f Tryz.X6 6 fun r'=>r' = rB true):=by
 refine z3n (C:=Tryz.X6) (z0y Tryz.bok c7) (z1e Tryz.bok c7) ?_
 rw [v6a]
 obtain ⟨rfl,⟨rfl,rfl,rfl,hk1,hk2,rfl,hx,rfl⟩ | ⟨h0,rfl,rfl,rfl⟩⟩:=h
 ·have hk:kx = 0 ∨ kx = 3:=by rw [hx]; unfold z01; split <;> (try split) <;> omega
  exact z0p (by simp) (z0b (by simp) (z0p (by simp) (z0p (by simp) (z0p (by simp) (z0b (w1y _ _ _ _ _ _ _ _ _ _ _ _) (x8h rs p q hk hk1 hk2))))))
 ·exact z0p (by simp) (z0p (by simpa using h0) (z0b (by simpa using h0) ⟨trivial,rfl⟩))
theorem x5k (rs:List Rul) (p q:Prf):(z1x rs p q).2.2.2 = (z1x rs q p).2.2.2∧((z1x rs p q).2.2.2 = 0∧(z1x rs q p).2.1 = (z1x rs p q).2.2.1∧(z1x rs q p).2.2.1 = (z1x rs p q).2.1∧(z1x rs p q).1 = z01 (z1x rs p q).2.1 (z1x rs p q).2.2.1∧(z1x rs q p).1 = z01 (z1x rs p q).2.2.1 (z1x rs p q).2.1∧(z1x rs p p).2.1 = (z1x rs p p).2.2.1∧(z1x rs p p).1 = z01 (z1x rs p p).2.1 (z1x rs p p).2.2.1∧(z1x rs p p).2.2.2 = 0 ∨ ¬ (z1x rs p q).2.2.2 = 0∧(z1x rs p q).1 = 0∧(z1x rs p q).2.1 = 0∧(z1x rs p q).2.2.1 = 0):=by
 unfold z1x
 rw [x2v rs p q]
 by_cases hb:z1v rs p q = 0
 ·have hb3:=x2w hb
  rw [if_pos hb,if_pos hb,if_pos hb3,x4t rs p q]
  exact ⟨rfl,.inl ⟨rfl,rfl,rfl,rfl,rfl,y35 _ _ _ _ _,rfl,rfl⟩⟩
 ·rw [if_neg hb,if_neg hb]
  exact ⟨rfl,.inr ⟨hb,rfl,rfl,rfl⟩⟩
theorem w6 (rs:List Rul) (hw:z1h rs) (p q:Prf):wpF Tryz.X6 6 [.agg [.vs (z0c rs) rs.length .none],.agg (z0a p),.agg (z0a q)] fun r'=>r' = rB true:=by
 rw [v6,y2t,y2t,y2t]
 exact ⟨⟨rs,rfl,rfl,hw,by omega,by omega⟩,z0h (fun h=>⟨trivial,rfl⟩) (fun h=>⟨⟨⟨rs,rfl,rfl,hw⟩,⟨p,rfl⟩,q,rfl⟩,⟨⟨rs,rfl,rfl,hw⟩,⟨q,rfl⟩,p,rfl⟩,⟨⟨rs,rfl,rfl,hw⟩,⟨p,rfl⟩,p,rfl⟩,z0b (w1y _ _ _ _ _ _ _ _ _ _ _ _) (x5l rs p q (x5k rs p q))⟩)⟩
end Go.Proofs
