/- Contracts of functions of the program and of the reference. -/
import Derived.Test.YtljjkomdibkjpaaGreatDoorK14
import Derived.Test.YtljjkomdibkjpaaGreatDoorK10
import Derived.Test.YtljjkomdibkjpaaGreatDoorK17
set_option linter.unusedVariables false
set_option linter.unusedSimpArgs false
set_option maxRecDepth 100000
set_option linter.unusedVariables false
namespace Go.Proofs
open Go Go.Ev
theorem w02 {p:Prf} (h:pOk p = 0):∃ i,i < 120∧(pAt i).cl = p.cl∧(pAt i).vi = p.vi∧(pAt i).ho = p.ho∧(pAt i).de = p.de∧(pAt i).mo = p.mo:=by
 have h1:okP p.cl p.vi p.cr p.le = true:=by
  unfold pOk at h
  by_cases h2:okP p.cl p.vi p.cr p.le = true
  ·exact h2
  ·rw [if_neg h2] at h; cases h
 simp only [okP,Bool.and_eq_true,decide_eq_true_eq] at h1
 obtain ⟨⟨⟨⟨⟨⟨⟨c1,c2⟩,c3⟩,c4⟩,c5⟩,c6⟩,c7⟩,c8⟩:=h1
 obtain ⟨a,ha⟩:∃ a:Nat,p.cl = a + 1:=⟨(p.cl - 1).toNat,by omega⟩
 obtain ⟨b,hb⟩:∃ b:Nat,p.vi = b:=⟨p.vi.toNat,by omega⟩
 obtain ⟨x,hx1,hx2⟩:∃ x:Nat,x < 2∧p.ho = decide (x = 1):=by cases p.ho; exact ⟨0,by omega,rfl⟩; exact ⟨1,by omega,rfl⟩
 obtain ⟨y,hy1,hy2⟩:∃ x:Nat,x < 2∧p.de = decide (x = 1):=by cases p.de; exact ⟨0,by omega,rfl⟩; exact ⟨1,by omega,rfl⟩
 obtain ⟨z,hz1,hz2⟩:∃ x:Nat,x < 2∧p.mo = decide (x = 1):=by cases p.mo; exact ⟨0,by omega,rfl⟩; exact ⟨1,by omega,rfl⟩
 refine ⟨a * 24 + (b * 8 + (x * 4 + (y * 2 + z))),by omega,?_,?_,?_,?_,?_⟩
 ·rw [ha]; simp only [pAt]; omega
 ·rw [hb]; simp only [pAt]; omega
 ·rw [hx2]; simp only [pAt]; congr 1; exact propext (by omega)
 ·rw [hy2]; simp only [pAt]; congr 1; exact propext (by omega)
 ·rw [hz2]; simp only [pAt]; congr 1; exact propext (by omega)
theorem w25 (a b:Int):∃ c,c < 3∧((wy c).1 < (wy c).2 ↔ a < b)∧((wy c).2 < (wy c).1 ↔ b < a):=by
 rcases Int.lt_trichotomy a b with h | h | h
 ·exact ⟨0,by omega,by simp [wy,h],by simp [wy]; omega⟩
 ·exact ⟨1,by omega,by simp [wy]; omega,by simp [wy]; omega⟩
 ·exact ⟨2,by omega,by simp [wy]; omega,by simp [wy,h]⟩
theorem w5b {i j c t:Nat} (hi:i < 120) (hj:j < 120) (hc:c < 3) (ht:t < 3):z2i (i * 1080 + (j * 9 + (c * 3 + t))) = (pw (pAt i) (wy c).1 (wy t).1,pw (pAt j) (wy c).2 (wy t).2):=by
 have h1:(i * 1080 + (j * 9 + (c * 3 + t))) / 1080 = i:=by omega
 have h2:(i * 1080 + (j * 9 + (c * 3 + t))) / 9 % 120 = j:=by omega
 have h3:(i * 1080 + (j * 9 + (c * 3 + t))) / 3 % 3 = c:=by omega
 have h4:(i * 1080 + (j * 9 + (c * 3 + t))) % 3 = t:=by omega
 unfold z2i
 rw [h1,h2,h3,h4]
theorem x49 {p q:Prf} (hp:pOk p = 0) (hq:pOk q = 0):∃ x ∈ csL,Sim p q x.1 x.2:=by
 obtain ⟨i,hi,i1,i2,i3,i4,i5⟩:=w02 hp
 obtain ⟨j,hj,j1,j2,j3,j4,j5⟩:=w02 hq
 obtain ⟨c,hc,c1,c2⟩:=w25 p.cr q.cr
 obtain ⟨t,ht,t1,t2⟩:=w25 p.le q.le
 refine ⟨z2i (i * 1080 + (j * 9 + (c * 3 + t))),List.mem_map_of_mem (List.mem_range.2 (by omega)),?_⟩
 rw [w5b hi hj hc ht]
 exact ⟨⟨i1,i2,i3,i4,i5⟩,⟨j1,j2,j3,j4,j5⟩,⟨c1,c2⟩,⟨t1,t2⟩⟩
theorem w26 (c:Nat):0 ≤ (wy c).1∧(wy c).1 ≤ 1∧0 ≤ (wy c).2∧(wy c).2 ≤ 1:=by
 match c with
 | 0=>simp [wy]
 | 1=>simp [wy]
 | c + 2=>simp [wy]
theorem w5a {i:Nat} (h:i < 129600):pOk (z2i i).1 = 0∧pOk (z2i i).2 = 0:=by
 obtain ⟨a1,a2,a3,a4⟩:=w26 (i / 3 % 3)
 obtain ⟨b1,b2,b3,b4⟩:=w26 (i % 3)
 have key:∀ (k:Nat) (x y:Int),k < 120→0 ≤ x→x ≤ 1→0 ≤ y→y ≤ 1→pOk (pw (pAt k) x y) = 0:=by
  intro k x y hk h1 h2 h3 h4
  unfold pOk
  rw [if_pos]
  simp only [okP,pw,pAt,Bool.and_eq_true]
  refine ⟨⟨⟨⟨⟨⟨⟨?_,?_⟩,?_⟩,?_⟩,?_⟩,?_⟩,?_⟩,?_⟩ <;> exact decide_eq_true (by omega)
 exact ⟨key _ _ _ (by omega) a1 a2 b1 b2,key _ _ _ (by omega) a3 a4 b3 b4⟩
theorem w1v {x:Prf × Prf} (h:x ∈ csL):pOk x.1 = 0∧pOk x.2 = 0:=by
 obtain ⟨i,hi,rfl⟩:=List.mem_map.1 h
 exact w5a (List.mem_range.1 hi)
theorem x9v {rs:List Rul} (hsh:∀ x ∈ rs,shT x.t = true) {p q p' q':Prf} (h:Sim p q p' q'):z2c rs p' q' = z2c rs p q:=by
 unfold z2c
 rw [x8g hsh h,x8g hsh h.swap]
end Go.Proofs
set_option maxRecDepth 100000
set_option linter.unusedVariables false
-- elP Wit
namespace Go.Proofs
open Go Go.Ev
def RW4:Spc:=fun args=>match args with
 | [.agg [.vs l len .none],.agg [.vs m lm .none],.agg a,.agg b]=>some ((∃ rs,l = z0c rs∧len = rs.length∧z1h rs)∧(∃ ss,m = z0c ss∧lm = ss.length∧z1h ss)∧(∃ p,a = z0a p)∧∃ q,b = z0a q,rB true)
 | _=>none
noncomputable def l14:List (FuncId × Spc):=[(20,R20),(24,R24),(28,R28),(41,R41),(43,R43),(45,R45)]
def v5b:List (Nat × List Nat):=[(10,[4,5,6,7,9,11,13,14,15,16,17,18,19,20,21]),(12,[4,5,13,14,16,17,19,20]),(16,[4,5,16,17,19,20]),(20,[4,5,19,20])]
noncomputable def Tryz.X14:WCx:=Tryz.B.wcx l14 v5b [] [10,12,16,20] [(16,9),(20,9)]
theorem v14 (l m:List AV) (len lm:Nat) (p q:Prf) (Q:CR→Prop):wpF Tryz.X14 14 [.agg [.vs l len .none],.agg [.vs m lm .none],.agg (z0a p),.agg (z0a q)] Q =
 ((∃ (rs:List Rul),l = z0c rs∧len = rs.length∧z1h rs∧(0:Int) ≤ (12:Int)∧(12:Int) ≤ (1000:Int))∧cIf (!z0g z0c (y5v (12:Int)) false l) (True∧Q (CR.ret (Bo true))) ((∃ (rs:List Rul),m = z0c rs∧lm = rs.length∧z1h rs∧(0:Int) ≤ (12:Int)∧(12:Int) ≤ (1000:Int))∧cIf (!z0g z0c (y5v (12:Int)) false m) (True∧Q (CR.ret (Bo true))) (((∃ (rs:List Rul),l = z0c rs∧len = rs.length∧z1h rs)∧(∃ (p_1:Prf),(z0a p) = z0a p_1)∧∃ (q_1:Prf),(z0a q) = z0a q_1)∧((∃ (rs:List Rul),m = z0c rs∧lm = rs.length∧z1h rs)∧(∃ (p_1:Prf),(z0a p) = z0a p_1)∧∃ (q_1:Prf),(z0a q) = z0a q_1)∧cIf ((dvD l (z0a p) (z0a q)).snd.snd.snd != (0:Int)) (True∧Q (CR.ret (Bo true))) (cIf ((dvD m (z0a p) (z0a q)).snd.snd.snd != (0:Int)) (True∧Q (CR.ret (Bo true))) ((∃ (rs:List Rul),l = z0c rs∧len = rs.length∧z1h rs)∧(∃ (rs:List Rul),l = z0c rs∧len = rs.length∧z1h rs)∧((∃ (rs:List Rul),l = z0c rs∧len = rs.length∧z1h rs)∧∃ (ss:List Rul),m = z0c ss∧lm = ss.length∧z1h ss)∧z0k Tryz.X14 (cd Tryz.X14.P 14 [1,1,1,1,1,1,1,1]) ([X,X,X,X,AV.ptr 0 0,AV.ptr 1 0,AV.ptr 2 0,AV.ptr 3 0,X,AV.ptr 4 0,X,AV.ptr 5 0,X,AV.ptr 6 0,Bo (z0g z0c z3v zWit l).f,I (z0g z0c z3v zWit l).e,AV.ptr 7 0,Bo (z0g z0c z6k zWit l).f,I (z0g z0c z6k zWit l).e,AV.ptr 8 0,Bo (on2 z3d l m).f,I (on2 z3d l m).e]++List.replicate 197 X) (St.mk [some (HB.cells [AV.vs l len Tok.none] 25),some (HB.cells [AV.vs m lm Tok.none] 25),some (HB.cells (z0a p) 40),some (HB.cells (z0a q) 40),some (HB.cells [AV.int IntKind.u8 (dvD l (z0a p) (z0a q)).fst,AV.int IntKind.i64 (dvD l (z0a p) (z0a q)).snd.fst,AV.int IntKind.i64 (dvD l (z0a p) (z0a q)).snd.snd.fst] 42),some (HB.cells [AV.int IntKind.u8 (dvD m (z0a p) (z0a q)).fst,AV.int IntKind.i64 (dvD m (z0a p) (z0a q)).snd.fst,AV.int IntKind.i64 (dvD m (z0a p) (z0a q)).snd.snd.fst] 42),some (HB.cells [I (z0g z0c z3v zWit l).p.cl,I (z0g z0c z3v zWit l).p.vi,Bo (z0g z0c z3v zWit l).p.ho,Bo (z0g z0c z3v zWit l).p.de,Bo (z0g z0c z3v zWit l).p.mo,I (z0g z0c z3v zWit l).p.cr,I (z0g z0c z3v zWit l).p.le,I (z0g z0c z3v zWit l).q.cl,I (z0g z0c z3v zWit l).q.vi,Bo (z0g z0c z3v zWit l).q.ho,Bo (z0g z0c z3v zWit l).q.de,Bo (z0g z0c z3v zWit l).q.mo,I (z0g z0c z3v zWit l).q.cr,I (z0g z0c z3v zWit l).q.le,I (z0g z0c z3v zWit l).a,I (z0g z0c z3v zWit l).b] 61),some (HB.cells [I (z0g z0c z6k zWit l).p.cl,I (z0g z0c z6k zWit l).p.vi,Bo (z0g z0c z6k zWit l).p.ho,Bo (z0g z0c z6k zWit l).p.de,Bo (z0g z0c z6k zWit l).p.mo,I (z0g z0c z6k zWit l).p.cr,I (z0g z0c z6k zWit l).p.le,I (z0g z0c z6k zWit l).q.cl,I (z0g z0c z6k zWit l).q.vi,Bo (z0g z0c z6k zWit l).q.ho,Bo (z0g z0c z6k zWit l).q.de,Bo (z0g z0c z6k zWit l).q.mo,I (z0g z0c z6k zWit l).q.cr,I (z0g z0c z6k zWit l).q.le,I (z0g z0c z6k zWit l).a,I (z0g z0c z6k zWit l).b] 61),some (HB.cells [I (on2 z3d l m).p.cl,I (on2 z3d l m).p.vi,Bo (on2 z3d l m).p.ho,Bo (on2 z3d l m).p.de,Bo (on2 z3d l m).p.mo,I (on2 z3d l m).p.cr,I (on2 z3d l m).p.le,I (on2 z3d l m).q.cl,I (on2 z3d l m).q.vi,Bo (on2 z3d l m).q.ho,Bo (on2 z3d l m).q.de,Bo (on2 z3d l m).q.mo,I (on2 z3d l m).q.cr,I (on2 z3d l m).q.le,I (on2 z3d l m).a,I (on2 z3d l m).b] 61)] [] []) (z0f Tryz.X14 14 Q)))))):=by kernel_rfl
theorem v7h (l m:List AV) (len lm:Nat) (p q:Prf) (k1 a1 b1 k2 a2 b2:Int) (w1 w2 w3:Wit) (Q:CR→Prop):wpC Tryz.X14 (cd PP 14 [1,1,1,1,1,1,1,1]) ([X,X,X,X,.ptr 0 0,.ptr 1 0,.ptr 2 0,.ptr 3 0,X,.ptr 4 0,X,.ptr 5 0,X,.ptr 6 0,Bo w1.f,I 0,.ptr 7 0,Bo w2.f,I 0,.ptr 8 0,Bo w3.f,I 0]++List.replicate 197 X) ⟨[some (.cells [.vs l len .none] 25),some (.cells [.vs m lm .none] 25),some (.cells (z0a p) 40),some (.cells (z0a q) 40),some (.cells [U k1,I a1,I b1] 42),some (.cells [U k2,I a2,I b2] 42),some (.cells (z1r w1.p w1.q w1.a w1.b) 61),some (.cells (z1r w2.p w2.q w2.a w2.b) 61),some (.cells (z1r w3.p w3.q w3.a w3.b) 61)],[],[]⟩ (z0f Tryz.X14 14 Q) =
 (cIf (!w1.f) (cIf (k1 == (3:Int)) (Q (CR.ret (Bo false))) (cIf (!w2.f) (cIf (!(p.cl == q.cl && (p.vi == q.vi && (p.ho == q.ho && (p.de == q.de && (p.mo == q.mo && (p.cr == q.cr && (p.le == q.le && true)))))))) (cIf (k1 == (0:Int)) (Q (CR.ret (Bo false))) (cIf w3.f (cIf (k1 != k2) (Q (CR.ret (Bo false))) (z0k Tryz.X14 (cd PP 14 [1,1,1,1,1,1,1,1,1]) ([X,X,X,X,AV.ptr 0 0,AV.ptr 1 0,X,X,X,X,X,X,X,AV.ptr 6 0,Bo w1.f,X,AV.ptr 7 0,Bo w2.f,X,AV.ptr 8 0,Bo w3.f]++List.replicate 198 X) (St.mk [some (HB.cells [AV.vs l len Tok.none] 25),some (HB.cells [AV.vs m lm Tok.none] 25),some (HB.cells (z0a p) 40),some (HB.cells (z0a q) 40),some (HB.cells [U k1,I a1,I b1] 42),some (HB.cells [U k2,I a2,I b2] 42),some (HB.cells (z1r w1.p w1.q w1.a w1.b) 61),some (HB.cells (z1r w2.p w2.q w2.a w2.b) 61),some (HB.cells (z1r w3.p w3.q w3.a w3.b) 61)] [] []) (z0f Tryz.X14 14 Q))) (z0k Tryz.X14 (cd PP 14 [1,1,1,1,1,1,1,1,1]) ([X,X,X,X,AV.ptr 0 0,AV.ptr 1 0,X,X,X,X,X,X,X,AV.ptr 6 0,Bo w1.f,X,AV.ptr 7 0,Bo w2.f,X,AV.ptr 8 0,Bo w3.f]++List.replicate 198 X) (St.mk [some (HB.cells [AV.vs l len Tok.none] 25),some (HB.cells [AV.vs m lm Tok.none] 25),some (HB.cells (z0a p) 40),some (HB.cells (z0a q) 40),some (HB.cells [U k1,I a1,I b1] 42),some (HB.cells [U k2,I a2,I b2] 42),some (HB.cells (z1r w1.p w1.q w1.a w1.b) 61),some (HB.cells (z1r w2.p w2.q w2.a w2.b) 61),some (HB.cells (z1r w3.p w3.q w3.a w3.b) 61)] [] []) (z0f Tryz.X14 14 Q)))) (cIf w3.f (cIf (k1 != k2) (Q (CR.ret (Bo false))) (z0k Tryz.X14 (cd PP 14 [1,1,1,1,1,1,1,1,1]) ([X,X,X,X,AV.ptr 0 0,AV.ptr 1 0,X,X,X,X,X,X,X,AV.ptr 6 0,Bo w1.f,X,AV.ptr 7 0,Bo w2.f,X,AV.ptr 8 0,Bo w3.f]++List.replicate 198 X) (St.mk [some (HB.cells [AV.vs l len Tok.none] 25),some (HB.cells [AV.vs m lm Tok.none] 25),some (HB.cells (z0a p) 40),some (HB.cells (z0a q) 40),some (HB.cells [U k1,I a1,I b1] 42),some (HB.cells [U k2,I a2,I b2] 42),some (HB.cells (z1r w1.p w1.q w1.a w1.b) 61),some (HB.cells (z1r w2.p w2.q w2.a w2.b) 61),some (HB.cells (z1r w3.p w3.q w3.a w3.b) 61)] [] []) (z0f Tryz.X14 14 Q))) (z0k Tryz.X14 (cd PP 14 [1,1,1,1,1,1,1,1,1]) ([X,X,X,X,AV.ptr 0 0,AV.ptr 1 0,X,X,X,X,X,X,X,AV.ptr 6 0,Bo w1.f,X,AV.ptr 7 0,Bo w2.f,X,AV.ptr 8 0,Bo w3.f]++List.replicate 198 X) (St.mk [some (HB.cells [AV.vs l len Tok.none] 25),some (HB.cells [AV.vs m lm Tok.none] 25),some (HB.cells (z0a p) 40),some (HB.cells (z0a q) 40),some (HB.cells [U k1,I a1,I b1] 42),some (HB.cells [U k2,I a2,I b2] 42),some (HB.cells (z1r w1.p w1.q w1.a w1.b) 61),some (HB.cells (z1r w2.p w2.q w2.a w2.b) 61),some (HB.cells (z1r w3.p w3.q w3.a w3.b) 61)] [] []) (z0f Tryz.X14 14 Q)))) (cIf w3.f (cIf (k1 != k2) (Q (CR.ret (Bo false))) (z0k Tryz.X14 (cd PP 14 [1,1,1,1,1,1,1,1,1]) ([X,X,X,X,AV.ptr 0 0,AV.ptr 1 0,X,X,X,X,X,X,X,AV.ptr 6 0,Bo w1.f,X,AV.ptr 7 0,Bo w2.f,X,AV.ptr 8 0,Bo w3.f]++List.replicate 198 X) (St.mk [some (HB.cells [AV.vs l len Tok.none] 25),some (HB.cells [AV.vs m lm Tok.none] 25),some (HB.cells (z0a p) 40),some (HB.cells (z0a q) 40),some (HB.cells [U k1,I a1,I b1] 42),some (HB.cells [U k2,I a2,I b2] 42),some (HB.cells (z1r w1.p w1.q w1.a w1.b) 61),some (HB.cells (z1r w2.p w2.q w2.a w2.b) 61),some (HB.cells (z1r w3.p w3.q w3.a w3.b) 61)] [] []) (z0f Tryz.X14 14 Q))) (z0k Tryz.X14 (cd PP 14 [1,1,1,1,1,1,1,1,1]) ([X,X,X,X,AV.ptr 0 0,AV.ptr 1 0,X,X,X,X,X,X,X,AV.ptr 6 0,Bo w1.f,X,AV.ptr 7 0,Bo w2.f,X,AV.ptr 8 0,Bo w3.f]++List.replicate 198 X) (St.mk [some (HB.cells [AV.vs l len Tok.none] 25),some (HB.cells [AV.vs m lm Tok.none] 25),some (HB.cells (z0a p) 40),some (HB.cells (z0a q) 40),some (HB.cells [U k1,I a1,I b1] 42),some (HB.cells [U k2,I a2,I b2] 42),some (HB.cells (z1r w1.p w1.q w1.a w1.b) 61),some (HB.cells (z1r w2.p w2.q w2.a w2.b) 61),some (HB.cells (z1r w3.p w3.q w3.a w3.b) 61)] [] []) (z0f Tryz.X14 14 Q))))) (cIf (!w2.f) (cIf (!(p.cl == q.cl && (p.vi == q.vi && (p.ho == q.ho && (p.de == q.de && (p.mo == q.mo && (p.cr == q.cr && (p.le == q.le && true)))))))) (cIf (k1 == (0:Int)) (Q (CR.ret (Bo false))) (cIf w3.f (cIf (k1 != k2) (Q (CR.ret (Bo false))) (z0k Tryz.X14 (cd PP 14 [1,1,1,1,1,1,1,1,1]) ([X,X,X,X,AV.ptr 0 0,AV.ptr 1 0,X,X,X,X,X,X,X,AV.ptr 6 0,Bo w1.f,X,AV.ptr 7 0,Bo w2.f,X,AV.ptr 8 0,Bo w3.f]++List.replicate 198 X) (St.mk [some (HB.cells [AV.vs l len Tok.none] 25),some (HB.cells [AV.vs m lm Tok.none] 25),some (HB.cells (z0a p) 40),some (HB.cells (z0a q) 40),some (HB.cells [U k1,I a1,I b1] 42),some (HB.cells [U k2,I a2,I b2] 42),some (HB.cells (z1r w1.p w1.q w1.a w1.b) 61),some (HB.cells (z1r w2.p w2.q w2.a w2.b) 61),some (HB.cells (z1r w3.p w3.q w3.a w3.b) 61)] [] []) (z0f Tryz.X14 14 Q))) (z0k Tryz.X14 (cd PP 14 [1,1,1,1,1,1,1,1,1]) ([X,X,X,X,AV.ptr 0 0,AV.ptr 1 0,X,X,X,X,X,X,X,AV.ptr 6 0,Bo w1.f,X,AV.ptr 7 0,Bo w2.f,X,AV.ptr 8 0,Bo w3.f]++List.replicate 198 X) (St.mk [some (HB.cells [AV.vs l len Tok.none] 25),some (HB.cells [AV.vs m lm Tok.none] 25),some (HB.cells (z0a p) 40),some (HB.cells (z0a q) 40),some (HB.cells [U k1,I a1,I b1] 42),some (HB.cells [U k2,I a2,I b2] 42),some (HB.cells (z1r w1.p w1.q w1.a w1.b) 61),some (HB.cells (z1r w2.p w2.q w2.a w2.b) 61),some (HB.cells (z1r w3.p w3.q w3.a w3.b) 61)] [] []) (z0f Tryz.X14 14 Q)))) (cIf w3.f (cIf (k1 != k2) (Q (CR.ret (Bo false))) (z0k Tryz.X14 (cd PP 14 [1,1,1,1,1,1,1,1,1]) ([X,X,X,X,AV.ptr 0 0,AV.ptr 1 0,X,X,X,X,X,X,X,AV.ptr 6 0,Bo w1.f,X,AV.ptr 7 0,Bo w2.f,X,AV.ptr 8 0,Bo w3.f]++List.replicate 198 X) (St.mk [some (HB.cells [AV.vs l len Tok.none] 25),some (HB.cells [AV.vs m lm Tok.none] 25),some (HB.cells (z0a p) 40),some (HB.cells (z0a q) 40),some (HB.cells [U k1,I a1,I b1] 42),some (HB.cells [U k2,I a2,I b2] 42),some (HB.cells (z1r w1.p w1.q w1.a w1.b) 61),some (HB.cells (z1r w2.p w2.q w2.a w2.b) 61),some (HB.cells (z1r w3.p w3.q w3.a w3.b) 61)] [] []) (z0f Tryz.X14 14 Q))) (z0k Tryz.X14 (cd PP 14 [1,1,1,1,1,1,1,1,1]) ([X,X,X,X,AV.ptr 0 0,AV.ptr 1 0,X,X,X,X,X,X,X,AV.ptr 6 0,Bo w1.f,X,AV.ptr 7 0,Bo w2.f,X,AV.ptr 8 0,Bo w3.f]++List.replicate 198 X) (St.mk [some (HB.cells [AV.vs l len Tok.none] 25),some (HB.cells [AV.vs m lm Tok.none] 25),some (HB.cells (z0a p) 40),some (HB.cells (z0a q) 40),some (HB.cells [U k1,I a1,I b1] 42),some (HB.cells [U k2,I a2,I b2] 42),some (HB.cells (z1r w1.p w1.q w1.a w1.b) 61),some (HB.cells (z1r w2.p w2.q w2.a w2.b) 61),some (HB.cells (z1r w3.p w3.q w3.a w3.b) 61)] [] []) (z0f Tryz.X14 14 Q)))) (cIf w3.f (cIf (k1 != k2) (Q (CR.ret (Bo false))) (z0k Tryz.X14 (cd PP 14 [1,1,1,1,1,1,1,1,1]) ([X,X,X,X,AV.ptr 0 0,AV.ptr 1 0,X,X,X,X,X,X,X,AV.ptr 6 0,Bo w1.f,X,AV.ptr 7 0,Bo w2.f,X,AV.ptr 8 0,Bo w3.f]++List.replicate 198 X) (St.mk [some (HB.cells [AV.vs l len Tok.none] 25),some (HB.cells [AV.vs m lm Tok.none] 25),some (HB.cells (z0a p) 40),some (HB.cells (z0a q) 40),some (HB.cells [U k1,I a1,I b1] 42),some (HB.cells [U k2,I a2,I b2] 42),some (HB.cells (z1r w1.p w1.q w1.a w1.b) 61),some (HB.cells (z1r w2.p w2.q w2.a w2.b) 61),some (HB.cells (z1r w3.p w3.q w3.a w3.b) 61)] [] []) (z0f Tryz.X14 14 Q))) (z0k Tryz.X14 (cd PP 14 [1,1,1,1,1,1,1,1,1]) ([X,X,X,X,AV.ptr 0 0,AV.ptr 1 0,X,X,X,X,X,X,X,AV.ptr 6 0,Bo w1.f,X,AV.ptr 7 0,Bo w2.f,X,AV.ptr 8 0,Bo w3.f]++List.replicate 198 X) (St.mk [some (HB.cells [AV.vs l len Tok.none] 25),some (HB.cells [AV.vs m lm Tok.none] 25),some (HB.cells (z0a p) 40),some (HB.cells (z0a q) 40),some (HB.cells [U k1,I a1,I b1] 42),some (HB.cells [U k2,I a2,I b2] 42),some (HB.cells (z1r w1.p w1.q w1.a w1.b) 61),some (HB.cells (z1r w2.p w2.q w2.a w2.b) 61),some (HB.cells (z1r w3.p w3.q w3.a w3.b) 61)] [] []) (z0f Tryz.X14 14 Q))))):=by kernel_rfl
theorem v7g (l m:List AV) (len lm:Nat) (p q:Prf) (k1 a1 b1 k2 a2 b2:Int) (w1 w2 w3:Wit) (Q:CR→Prop):wpC Tryz.X14 (cd PP 14 [1,1,1,1,1,1,1,1,1]) ([X,X,X,X,.ptr 0 0,.ptr 1 0,X,X,X,X,X,X,X,.ptr 6 0,Bo w1.f,X,.ptr 7 0,Bo w2.f,X,.ptr 8 0,Bo w3.f]++List.replicate 198 X) ⟨[some (.cells [.vs l len .none] 25),some (.cells [.vs m lm .none] 25),some (.cells (z0a p) 40),some (.cells (z0a q) 40),some (.cells [U k1,I a1,I b1] 42),some (.cells [U k2,I a2,I b2] 42),some (.cells (z1r w1.p w1.q w1.a w1.b) 61),some (.cells (z1r w2.p w2.q w2.a w2.b) 61),some (.cells (z1r w3.p w3.q w3.a w3.b) 61)],[],[]⟩ (z0f Tryz.X14 14 Q) =
 (cIf w1.f (((∃ (rs:List Rul),l = z0c rs∧len = rs.length∧z1h rs)∧(∃ (p:Prf),(z0a w1.p) = z0a p)∧∃ (q:Prf),(z0a w1.q) = z0a q)∧cIf ((dvD l (z0a w1.p) (z0a w1.q)).snd.snd.snd != (0:Int)) (Q (CR.ret (Bo false))) (cIf (!((dvD l (z0a w1.p) (z0a w1.q)).fst == (3:Int) && ((dvD l (z0a w1.p) (z0a w1.q)).snd.fst == w1.a && ((dvD l (z0a w1.p) (z0a w1.q)).snd.snd.fst == w1.b && true)))) (Q (CR.ret (Bo false))) (cIf ([some (HB.cells [AV.vs l len Tok.none] 25),some (HB.cells [AV.vs m lm Tok.none] 25),some (HB.cells (z0a p) 40),some (HB.cells (z0a q) 40),some (HB.cells [U k1,I a1,I b1] 42),some (HB.cells [U k2,I a2,I b2] 42),some (HB.cells (z1r w1.p w1.q w1.a w1.b) 61),some (HB.cells (z1r w2.p w2.q w2.a w2.b) 61),some (HB.cells (z1r w3.p w3.q w3.a w3.b) 61)].all (okBlk 9)) (z0k Tryz.X14 (cd PP 14 [1,1,1,1,1,1,1,1,1,1]) ([X,X,X,X,AV.ptr 0 0,AV.ptr 1 0,X,X,X,X,X,X,X,X,X,X,AV.ptr 7 0,Bo w2.f,X,AV.ptr 8 0,Bo w3.f]++List.replicate 198 X) (St.mk [some (HB.cells [AV.vs l len Tok.none] 25),some (HB.cells [AV.vs m lm Tok.none] 25),some (HB.cells (z0a p) 40),some (HB.cells (z0a q) 40),some (HB.cells [U k1,I a1,I b1] 42),some (HB.cells [U k2,I a2,I b2] 42),some (HB.cells (z1r w1.p w1.q w1.a w1.b) 61),some (HB.cells (z1r w2.p w2.q w2.a w2.b) 61),some (HB.cells (z1r w3.p w3.q w3.a w3.b) 61)] [] []) (z0f Tryz.X14 14 Q)) False))) (cIf ([some (HB.cells [AV.vs l len Tok.none] 25),some (HB.cells [AV.vs m lm Tok.none] 25),some (HB.cells (z0a p) 40),some (HB.cells (z0a q) 40),some (HB.cells [U k1,I a1,I b1] 42),some (HB.cells [U k2,I a2,I b2] 42),some (HB.cells (z1r w1.p w1.q w1.a w1.b) 61),some (HB.cells (z1r w2.p w2.q w2.a w2.b) 61),some (HB.cells (z1r w3.p w3.q w3.a w3.b) 61)].all (okBlk 9)) (z0k Tryz.X14 (cd PP 14 [1,1,1,1,1,1,1,1,1,1]) ([X,X,X,X,AV.ptr 0 0,AV.ptr 1 0,X,X,X,X,X,X,X,X,X,X,AV.ptr 7 0,Bo w2.f,X,AV.ptr 8 0,Bo w3.f]++List.replicate 198 X) (St.mk [some (HB.cells [AV.vs l len Tok.none] 25),some (HB.cells [AV.vs m lm Tok.none] 25),some (HB.cells (z0a p) 40),some (HB.cells (z0a q) 40),some (HB.cells [U k1,I a1,I b1] 42),some (HB.cells [U k2,I a2,I b2] 42),some (HB.cells (z1r w1.p w1.q w1.a w1.b) 61),some (HB.cells (z1r w2.p w2.q w2.a w2.b) 61),some (HB.cells (z1r w3.p w3.q w3.a w3.b) 61)] [] []) (z0f Tryz.X14 14 Q)) False)):=by kernel_rfl
theorem v7f (l m:List AV) (len lm:Nat) (p q:Prf) (k1 a1 b1 k2 a2 b2:Int) (w1 w2 w3:Wit) (Q:CR→Prop):wpC Tryz.X14 (cd PP 14 [1,1,1,1,1,1,1,1,1,1]) ([X,X,X,X,.ptr 0 0,.ptr 1 0,X,X,X,X,X,X,X,X,X,X,.ptr 7 0,Bo w2.f,X,.ptr 8 0,Bo w3.f]++List.replicate 198 X) ⟨[some (.cells [.vs l len .none] 25),some (.cells [.vs m lm .none] 25),some (.cells (z0a p) 40),some (.cells (z0a q) 40),some (.cells [U k1,I a1,I b1] 42),some (.cells [U k2,I a2,I b2] 42),some (.cells (z1r w1.p w1.q w1.a w1.b) 61),some (.cells (z1r w2.p w2.q w2.a w2.b) 61),some (.cells (z1r w3.p w3.q w3.a w3.b) 61)],[],[]⟩ (z0f Tryz.X14 14 Q) =
 (cIf w2.f (((∃ (rs:List Rul),l = z0c rs∧len = rs.length∧z1h rs)∧(∃ (p:Prf),(z0a w2.p) = z0a p)∧∃ (q:Prf),(z0a w2.q) = z0a q)∧cIf ((dvD l (z0a w2.p) (z0a w2.q)).snd.snd.snd != (0:Int)) (Q (CR.ret (Bo false))) (cIf ((dvD l (z0a w2.p) (z0a w2.q)).fst != (0:Int)) (Q (CR.ret (Bo false))) (cIf (w2.p.cl == w2.q.cl && (w2.p.vi == w2.q.vi && (w2.p.ho == w2.q.ho && (w2.p.de == w2.q.de && (w2.p.mo == w2.q.mo && (w2.p.cr == w2.q.cr && (w2.p.le == w2.q.le && true))))))) (Q (CR.ret (Bo false))) (cIf ([some (HB.cells [AV.vs l len Tok.none] 25),some (HB.cells [AV.vs m lm Tok.none] 25),some (HB.cells (z0a p) 40),some (HB.cells (z0a q) 40),some (HB.cells [U k1,I a1,I b1] 42),some (HB.cells [U k2,I a2,I b2] 42),some (HB.cells (z1r w1.p w1.q w1.a w1.b) 61),some (HB.cells (z1r w2.p w2.q w2.a w2.b) 61),some (HB.cells (z1r w3.p w3.q w3.a w3.b) 61)].all (okBlk 9)) (z0k Tryz.X14 (cd PP 14 [1,1,1,1,1,1,1,1,1,1,1]) ([X,X,X,X,AV.ptr 0 0,AV.ptr 1 0,X,X,X,X,X,X,X,X,X,X,X,X,X,AV.ptr 8 0,Bo w3.f]++List.replicate 198 X) (St.mk [some (HB.cells [AV.vs l len Tok.none] 25),some (HB.cells [AV.vs m lm Tok.none] 25),some (HB.cells (z0a p) 40),some (HB.cells (z0a q) 40),some (HB.cells [U k1,I a1,I b1] 42),some (HB.cells [U k2,I a2,I b2] 42),some (HB.cells (z1r w1.p w1.q w1.a w1.b) 61),some (HB.cells (z1r w2.p w2.q w2.a w2.b) 61),some (HB.cells (z1r w3.p w3.q w3.a w3.b) 61)] [] []) (z0f Tryz.X14 14 Q)) False)))) (cIf ([some (HB.cells [AV.vs l len Tok.none] 25),some (HB.cells [AV.vs m lm Tok.none] 25),some (HB.cells (z0a p) 40),some (HB.cells (z0a q) 40),some (HB.cells [U k1,I a1,I b1] 42),some (HB.cells [U k2,I a2,I b2] 42),some (HB.cells (z1r w1.p w1.q w1.a w1.b) 61),some (HB.cells (z1r w2.p w2.q w2.a w2.b) 61),some (HB.cells (z1r w3.p w3.q w3.a w3.b) 61)].all (okBlk 9)) (z0k Tryz.X14 (cd PP 14 [1,1,1,1,1,1,1,1,1,1,1]) ([X,X,X,X,AV.ptr 0 0,AV.ptr 1 0,X,X,X,X,X,X,X,X,X,X,X,X,X,AV.ptr 8 0,Bo w3.f]++List.replicate 198 X) (St.mk [some (HB.cells [AV.vs l len Tok.none] 25),some (HB.cells [AV.vs m lm Tok.none] 25),some (HB.cells (z0a p) 40),some (HB.cells (z0a q) 40),some (HB.cells [U k1,I a1,I b1] 42),some (HB.cells [U k2,I a2,I b2] 42),some (HB.cells (z1r w1.p w1.q w1.a w1.b) 61),some (HB.cells (z1r w2.p w2.q w2.a w2.b) 61),some (HB.cells (z1r w3.p w3.q w3.a w3.b) 61)] [] []) (z0f Tryz.X14 14 Q)) False)):=by kernel_rfl
theorem v7e (l m:List AV) (len lm:Nat) (p q:Prf) (k1 a1 b1 k2 a2 b2:Int) (w1 w2 w3:Wit) (Q:CR→Prop):wpC Tryz.X14 (cd PP 14 [1,1,1,1,1,1,1,1,1,1,1]) ([X,X,X,X,.ptr 0 0,.ptr 1 0,X,X,X,X,X,X,X,X,X,X,X,X,X,.ptr 8 0,Bo w3.f]++List.replicate 198 X) ⟨[some (.cells [.vs l len .none] 25),some (.cells [.vs m lm .none] 25),some (.cells (z0a p) 40),some (.cells (z0a q) 40),some (.cells [U k1,I a1,I b1] 42),some (.cells [U k2,I a2,I b2] 42),some (.cells (z1r w1.p w1.q w1.a w1.b) 61),some (.cells (z1r w2.p w2.q w2.a w2.b) 61),some (.cells (z1r w3.p w3.q w3.a w3.b) 61)],[],[]⟩ (z0f Tryz.X14 14 Q) =
 (cIf w3.f (True∧Q (CR.ret (Bo true))) (((∃ (rs:List Rul),l = z0c rs∧len = rs.length∧z1h rs)∧(∃ (p:Prf),(z0a w3.p) = z0a p)∧∃ (q:Prf),(z0a w3.q) = z0a q)∧((∃ (rs:List Rul),m = z0c rs∧lm = rs.length∧z1h rs)∧(∃ (p:Prf),(z0a w3.p) = z0a p)∧∃ (q:Prf),(z0a w3.q) = z0a q)∧True∧cIf ((dvD l (z0a w3.p) (z0a w3.q)).snd.snd.snd == (0:Int)) (cIf ((dvD m (z0a w3.p) (z0a w3.q)).snd.snd.snd == (0:Int)) (cIf (IntKind.i64.wrap (dvD l (z0a w3.p) (z0a w3.q)).fst == w3.a) (cIf (IntKind.i64.wrap (dvD m (z0a w3.p) (z0a w3.q)).fst == w3.b) (Q (CR.ret (Bo (w3.a != w3.b)))) (Q (CR.ret (Bo false)))) (Q (CR.ret (Bo false)))) (Q (CR.ret (Bo false)))) (Q (CR.ret (Bo false))))):=by kernel_rfl
end Go.Proofs
set_option maxRecDepth 100000
set_option linter.unusedVariables false
namespace Go.Proofs
open Go Go.Ev
theorem Sim.eqP {p q p' q':Prf} (h:Sim p q p' q') (he:eqP p' q' = true):eqP p q = true:=by
 obtain ⟨a1,a2,a3,a4,a5⟩:=h.a
 obtain ⟨b1,b2,b3,b4,b5⟩:=h.b
 unfold Go.Proofs.eqP at he ⊢
 rw [a1,a2,a3,a4,a5,b1,b2,b3,b4,b5] at he
 simp only [Bool.and_eq_true,beq_iff_eq,and_true] at he ⊢
 obtain ⟨e1,e2,e3,e4,e5,e6,e7⟩:=he
 have:=h.c
 have:=h.l
 exact ⟨e1,e2,e3,e4,e5,by omega,by omega⟩
section
variable {rs ss:List Rul} (hw:z1h rs) (hw2:z1h ss) {p q:Prf}
theorem x48 {rs:List Rul} (hc:chk rs = 0) (hp:pOk p = 0) (hq:pOk q = 0):z1x rs p q = (z01 (z2c rs p q).1 (z2c rs p q).2,(z2c rs p q).1,(z2c rs p q).2,0):=by
 have hb:z1v rs p q = 0:=by
  unfold z1v
  simp [hc,hp,hq]
 unfold z1x
 rw [if_pos hb]
theorem w9l {rs:List Rul} (he:(z1x rs p q).2.2.2 = 0):chk rs = 0∧pOk p = 0∧pOk q = 0:=by
 have hb:z1v rs p q = 0:=by
  unfold z1x at he
  by_cases h:z1v rs p q = 0
  ·exact h
  ·rw [if_neg h] at he; exact absurd he h
 have hc:=y2y hb
 refine ⟨hc,?_⟩
 unfold z1v at hb
 simp only [hc] at hb
 have h1:pOk p = 0 ∨ pOk p = 1:=by unfold pOk; split <;> simp
 have h2:pOk q = 0 ∨ pOk q = 1:=by unfold pOk; split <;> simp
 rcases h1 with h1 | h1 <;> rcases h2 with h2 | h2 <;> rw [h1,h2] at hb <;> simp_all
theorem x9d (P:Prf × Prf→Bool) (a b:Prf × Prf→Int):((y3y (csL.find? P) a b).f = false→∀ x ∈ csL,P x = false)∧((y3y (csL.find? P) a b).f = true→∃ x ∈ csL,P x = true∧y3y (csL.find? P) a b = ⟨x.1,x.2,a x,b x,true,0⟩):=by
 cases hx:csL.find? P with
 | none =>
  refine ⟨fun _ x h=>?_,fun h=>by cases h⟩
  have:=List.find?_eq_none.1 hx x h
  simpa using this
 | some x=>exact ⟨fun h=>(by cases h),fun _=>⟨x,List.mem_of_find?_eq_some hx,List.find?_some hx,rfl⟩⟩
end
section
attribute [local irreducible] csL
variable {rs ss:List Rul} (hw:z1h rs) (hw2:z1h ss) {p q:Prf} (hc:chk rs = 0) (hc2:chk ss = 0) (hp:pOk p = 0) (hq:pOk q = 0)
theorem w13 (hc:chk rs = 0):z3v rs = y3y (csL.find? (y26 rs)) (fun x=>(z2c rs x.1 x.2).1) (fun x=>(z2c rs x.1 x.2).2):=by unfold z3v; rw [if_pos hc]
theorem w5j (hc:chk rs = 0):z6k rs = y3y (csL.find? (y4m rs)) (fun _=>0) (fun _=>0):=by unfold z6k; rw [if_pos hc]
theorem w7e (hc:chk rs = 0) (hc2:chk ss = 0):z3d rs ss = { z2b rs ss with f:=!(z2b rs ss).f,e:=0 }:=by unfold z3d; rw [if_pos hc,if_pos hc2]
theorem w8l (P:Prf × Prf→Bool) (a b:Prf × Prf→Int):(y3y (csL.find? P) a b).e = 0:=by cases csL.find? P <;> rfl
include hw hc hp hq
theorem v0o (h:(z3v rs).f = false):z01 (z2c rs p q).1 (z2c rs p q).2 ≠ 3:=by
 obtain ⟨_,hsh,_⟩:=z8x hw hc
 rw [w13 hc] at h
 obtain ⟨x,hx,hs⟩:=x49 hp hq
 have h1:=(x9d _ _ _).1 h x hx
 unfold y26 at h1
 rw [x9v hsh hs] at h1
 simpa using h1
theorem v4p (h:(z6k rs).f = false) (hn:eqP p q = false):z01 (z2c rs p q).1 (z2c rs p q).2 ≠ 0:=by
 obtain ⟨_,hsh,_⟩:=z8x hw hc
 rw [w5j hc] at h
 obtain ⟨x,hx,hs⟩:=x49 hp hq
 have h1:=(x9d _ _ _).1 h x hx
 unfold y4m at h1
 rw [x9v hsh hs] at h1
 have h2:eqP x.1 x.2 = false:=by
  cases h3:eqP x.1 x.2 with
  | false=>rfl
  | true=>rw [hs.eqP h3] at hn; cases hn
 rw [h2] at h1
 simpa using h1
include hw2 hc2
theorem v1t (h:(z3d rs ss).f = true):z01 (z2c rs p q).1 (z2c rs p q).2 = z01 (z2c ss p q).1 (z2c ss p q).2:=by
 obtain ⟨_,hsh,_⟩:=z8x hw hc
 obtain ⟨_,hsh2,_⟩:=z8x hw2 hc2
 rw [w7e hc hc2] at h
 have h:(z2b rs ss).f = false:=by simpa using h
 obtain ⟨x,hx,hs⟩:=x49 hp hq
 have h1:=(x9d _ _ _).1 h x hx
 unfold z96 kdV at h1
 rw [x9v hsh hs,x9v hsh2 hs] at h1
 simpa using h1
end
theorem c14:Cts Tryz.B l14:=((((((Cts.nil _).cons v1k).cons v7x).cons v7y).cons x9z).cons x77).cons x78
section
attribute [local irreducible] csL z2b chk z3v z6k z3d wpC wpF
variable {rs ss:List Rul} (hw:z1h rs) (hw2:z1h ss) {p q:Prf} (hc:chk rs = 0) (hc2:chk ss = 0) (hp:pOk p = 0) (hq:pOk q = 0)
theorem w5k (rs ss:List Rul) (p q:Prf) (k1 a1 b1 k2 a2 b2:Int) (w1 w2 w3:Wit):[some (HB.cells [AV.vs (z0c rs) rs.length Tok.none] 25),some (HB.cells [AV.vs (z0c ss) ss.length Tok.none] 25),some (HB.cells (z0a p) 40),some (HB.cells (z0a q) 40),some (HB.cells [U k1,I a1,I b1] 42),some (HB.cells [U k2,I a2,I b2] 42),some (HB.cells (z1r w1.p w1.q w1.a w1.b) 61),some (HB.cells (z1r w2.p w2.q w2.a w2.b) 61),some (HB.cells (z1r w3.p w3.q w3.a w3.b) 61)].all (okBlk 9) = true:=by
 simp [okBlk,noHB,noHL,noH,z0t,z04,z1r]
include hw hw2 hc hc2
theorem v5k (k1 a1 b1 k2 a2 b2:Int) (w1 w2:Wit) {Q:CR→Prop} (hQ:Q (rB true)):wpC Tryz.X14 (cd PP 14 [1,1,1,1,1,1,1,1,1,1,1]) ([X,X,X,X,.ptr 0 0,.ptr 1 0,X,X,X,X,X,X,X,X,X,X,X,X,X,.ptr 8 0,Bo (z3d rs ss).f]++List.replicate 198 X)
  ⟨[some (HB.cells [AV.vs (z0c rs) rs.length Tok.none] 25),some (HB.cells [AV.vs (z0c ss) ss.length Tok.none] 25),some (HB.cells (z0a p) 40),some (HB.cells (z0a q) 40),some (HB.cells [U k1,I a1,I b1] 42),some (HB.cells [U k2,I a2,I b2] 42),some (HB.cells (z1r w1.p w1.q w1.a w1.b) 61),some (HB.cells (z1r w2.p w2.q w2.a w2.b) 61),some (HB.cells (z1r (z3d rs ss).p (z3d rs ss).q (z3d rs ss).a (z3d rs ss).b) 61)],[],[]⟩ (z0f Tryz.X14 14 Q):=by
 rw [v7e]
 refine z0h (fun h=>⟨trivial,hQ⟩) (fun h=>?_)
 refine ⟨⟨⟨rs,rfl,rfl,hw⟩,⟨_,rfl⟩,_,rfl⟩,⟨⟨ss,rfl,rfl,hw2⟩,⟨_,rfl⟩,_,rfl⟩,trivial,?_⟩
 rw [w7e hc hc2] at h ⊢
 have h:(z2b rs ss).f = true:=by simpa using h
 obtain ⟨x,hx,h1,h2⟩:=(x9d (z96 rs ss) (kdV rs) (kdV ss)).2 (by simpa [z2b] using h)
 have h2:z2b rs ss = ⟨x.1,x.2,kdV rs x,kdV ss x,true,0⟩:=by unfold z2b; exact h2
 obtain ⟨o1,o2⟩:=w1v hx
 rw [h2]
 simp only
 rw [y2t,y2t,x48 hc o1 o2,x48 hc2 o1 o2]
 simp only [x1k]
 rw [show z01 (z2c rs x.1 x.2).1 (z2c rs x.1 x.2).2 = kdV rs x from rfl,show z01 (z2c ss x.1 x.2).1 (z2c ss x.1 x.2).2 = kdV ss x from rfl]
 have h3:(kdV rs x != kdV ss x) = true:=h1
 rw [h3]
 exact z0b rfl (z0b rfl (z0b (by simp) (z0b (by simp) hQ)))
theorem v5l (k1 a1 b1 k2 a2 b2:Int) (w1:Wit) {Q:CR→Prop} (hQ:Q (rB true)):wpC Tryz.X14 (cd PP 14 [1,1,1,1,1,1,1,1,1,1]) ([X,X,X,X,.ptr 0 0,.ptr 1 0,X,X,X,X,X,X,X,X,X,X,.ptr 7 0,Bo (z6k rs).f,X,.ptr 8 0,Bo (z3d rs ss).f]++List.replicate 198 X)
  ⟨[some (HB.cells [AV.vs (z0c rs) rs.length Tok.none] 25),some (HB.cells [AV.vs (z0c ss) ss.length Tok.none] 25),some (HB.cells (z0a p) 40),some (HB.cells (z0a q) 40),some (HB.cells [U k1,I a1,I b1] 42),some (HB.cells [U k2,I a2,I b2] 42),some (HB.cells (z1r w1.p w1.q w1.a w1.b) 61),some (HB.cells (z1r (z6k rs).p (z6k rs).q (z6k rs).a (z6k rs).b) 61),some (HB.cells (z1r (z3d rs ss).p (z3d rs ss).q (z3d rs ss).a (z3d rs ss).b) 61)],[],[]⟩ (z0f Tryz.X14 14 Q):=by
 rw [v7f]
 refine z0h (fun h=>?_) (fun h=>z0b (w5k _ _ _ _ _ _ _ _ _ _ _ _ _) (z4e Tryz.bok c14 (v5k hw hw2 hc hc2 _ _ _ _ _ _ _ _ hQ)))
 refine ⟨⟨⟨rs,rfl,rfl,hw⟩,⟨_,rfl⟩,_,rfl⟩,?_⟩
 have hg:=h
 rw [w5j hc] at hg
 obtain ⟨x,hx,h1,h2⟩:=(x9d _ _ _).2 hg
 rw [← w5j hc] at h2
 obtain ⟨o1,o2⟩:=w1v hx
 unfold y4m at h1
 simp only [Bool.and_eq_true,Bool.not_eq_true',beq_iff_eq] at h1
 have e1:(z6k rs).p = x.1:=by rw [h2]
 have e2:(z6k rs).q = x.2:=by rw [h2]
 rw [e1,e2,y2t,x48 hc o1 o2,h1.2,show (x.1.cl == x.2.cl && (x.1.vi == x.2.vi && (x.1.ho == x.2.ho && (x.1.de == x.2.de && (x.1.mo == x.2.mo && (x.1.cr == x.2.cr && (x.1.le == x.2.le && true))))))) = eqP x.1 x.2 from rfl,h1.1,← e1,← e2]
 exact z0p rfl (z0p rfl (z0p rfl (z0b (w5k _ _ _ _ _ _ _ _ _ _ _ _ _) (z4e Tryz.bok c14 (v5k hw hw2 hc hc2 _ _ _ _ _ _ _ _ hQ)))))
theorem v7r (k1 a1 b1 k2 a2 b2:Int) {Q:CR→Prop} (hQ:Q (rB true)):wpC Tryz.X14 (cd PP 14 [1,1,1,1,1,1,1,1,1]) ([X,X,X,X,.ptr 0 0,.ptr 1 0,X,X,X,X,X,X,X,.ptr 6 0,Bo (z3v rs).f,X,.ptr 7 0,Bo (z6k rs).f,X,.ptr 8 0,Bo (z3d rs ss).f]++List.replicate 198 X)
  ⟨[some (HB.cells [AV.vs (z0c rs) rs.length Tok.none] 25),some (HB.cells [AV.vs (z0c ss) ss.length Tok.none] 25),some (HB.cells (z0a p) 40),some (HB.cells (z0a q) 40),some (HB.cells [U k1,I a1,I b1] 42),some (HB.cells [U k2,I a2,I b2] 42),some (HB.cells (z1r (z3v rs).p (z3v rs).q (z3v rs).a (z3v rs).b) 61),some (HB.cells (z1r (z6k rs).p (z6k rs).q (z6k rs).a (z6k rs).b) 61),some (HB.cells (z1r (z3d rs ss).p (z3d rs ss).q (z3d rs ss).a (z3d rs ss).b) 61)],[],[]⟩ (z0f Tryz.X14 14 Q):=by
 rw [v7g]
 refine z0h (fun h=>?_) (fun h=>z0b (w5k _ _ _ _ _ _ _ _ _ _ _ _ _) (z4e Tryz.bok c14 (v5l hw hw2 hc hc2 _ _ _ _ _ _ _ hQ)))
 refine ⟨⟨⟨rs,rfl,rfl,hw⟩,⟨_,rfl⟩,_,rfl⟩,?_⟩
 have hg:=h
 rw [w13 hc] at hg
 obtain ⟨x,hx,h1,h2⟩:=(x9d _ _ _).2 hg
 rw [← w13 hc] at h2
 obtain ⟨o1,o2⟩:=w1v hx
 unfold y26 at h1
 simp only [beq_iff_eq] at h1
 have e1:(z3v rs).p = x.1:=by rw [h2]
 have e2:(z3v rs).q = x.2:=by rw [h2]
 have e3:(z3v rs).a = (z2c rs x.1 x.2).1:=by rw [h2]
 have e4:(z3v rs).b = (z2c rs x.1 x.2).2:=by rw [h2]
 rw [y2t,e1,e2,x48 hc o1 o2,h1,← e3,← e4,← e1,← e2]
 exact z0p rfl (z0p (by simp) (z0b (w5k _ _ _ _ _ _ _ _ _ _ _ _ _) (z4e Tryz.bok c14 (v5l hw hw2 hc hc2 _ _ _ _ _ _ _ hQ))))
include hp hq
theorem v7s (k1 a1 b1 k2 a2 b2:Int) (hk1:k1 = z01 (z2c rs p q).1 (z2c rs p q).2) (hk2:k2 = z01 (z2c ss p q).1 (z2c ss p q).2) {Q:CR→Prop} (hQ:Q (rB true)):wpC Tryz.X14 (cd PP 14 [1,1,1,1,1,1,1,1]) ([X,X,X,X,.ptr 0 0,.ptr 1 0,.ptr 2 0,.ptr 3 0,X,.ptr 4 0,X,.ptr 5 0,X,.ptr 6 0,Bo (z3v rs).f,I 0,.ptr 7 0,Bo (z6k rs).f,I 0,.ptr 8 0,Bo (z3d rs ss).f,I 0]++List.replicate 197 X)
  ⟨[some (HB.cells [AV.vs (z0c rs) rs.length Tok.none] 25),some (HB.cells [AV.vs (z0c ss) ss.length Tok.none] 25),some (HB.cells (z0a p) 40),some (HB.cells (z0a q) 40),some (HB.cells [U k1,I a1,I b1] 42),some (HB.cells [U k2,I a2,I b2] 42),some (HB.cells (z1r (z3v rs).p (z3v rs).q (z3v rs).a (z3v rs).b) 61),some (HB.cells (z1r (z6k rs).p (z6k rs).q (z6k rs).a (z6k rs).b) 61),some (HB.cells (z1r (z3d rs ss).p (z3d rs ss).q (z3d rs ss).a (z3d rs ss).b) 61)],[],[]⟩ (z0f Tryz.X14 14 Q):=by
 rw [v7h]
 have go:=z4e Tryz.bok c14 (v7r (p:=p) (q:=q) hw hw2 hc hc2 k1 a1 b1 k2 a2 b2 hQ)
 have s3:cIf (z3d rs ss).f (cIf (k1 != k2) (Q (CR.ret (Bo false))) (z0k Tryz.X14 (cd PP 14 [1,1,1,1,1,1,1,1,1]) _ _ (z0f Tryz.X14 14 Q))) (z0k Tryz.X14 (cd PP 14 [1,1,1,1,1,1,1,1,1]) _ _ (z0f Tryz.X14 14 Q)) :=
  z0h (fun h=>z0p (by rw [hk1,hk2,v1t hw hw2 hc hc2 hp hq h]; simp) go) (fun _=>go)
 have s2:cIf (!(z6k rs).f) (cIf (!(p.cl == q.cl && (p.vi == q.vi && (p.ho == q.ho && (p.de == q.de && (p.mo == q.mo && (p.cr == q.cr && (p.le == q.le && true)))))))) (cIf (k1 == (0:Int)) (Q (CR.ret (Bo false))) (cIf (z3d rs ss).f (cIf (k1 != k2) (Q (CR.ret (Bo false))) (z0k Tryz.X14 (cd PP 14 [1,1,1,1,1,1,1,1,1]) _ _ (z0f Tryz.X14 14 Q))) (z0k Tryz.X14 (cd PP 14 [1,1,1,1,1,1,1,1,1]) _ _ (z0f Tryz.X14 14 Q)))) (cIf (z3d rs ss).f (cIf (k1 != k2) (Q (CR.ret (Bo false))) (z0k Tryz.X14 (cd PP 14 [1,1,1,1,1,1,1,1,1]) _ _ (z0f Tryz.X14 14 Q))) (z0k Tryz.X14 (cd PP 14 [1,1,1,1,1,1,1,1,1]) _ _ (z0f Tryz.X14 14 Q)))) (cIf (z3d rs ss).f (cIf (k1 != k2) (Q (CR.ret (Bo false))) (z0k Tryz.X14 (cd PP 14 [1,1,1,1,1,1,1,1,1]) _ _ (z0f Tryz.X14 14 Q))) (z0k Tryz.X14 (cd PP 14 [1,1,1,1,1,1,1,1,1]) _ _ (z0f Tryz.X14 14 Q))) :=
  z0h (fun h=>z0h (fun h2=>z0p (by rw [hk1]; have:=v4p hw hc hp hq (by simpa using h) (show eqP p q = false by have h3:(!eqP p q) = true:=h2; simpa using h3); simpa using this) s3) (fun _=>s3)) (fun _=>s3)
 exact z0h (fun h=>z0p (by rw [hk1]; have:=v0o hw hc hp hq (by simpa using h); simpa using this) s2) (fun _=>s2)
end
section
attribute [local irreducible] csL z2b chk z3v z6k z3d wpC wpF
set_option maxHeartbeats 1000000 in
theorem ct14:Ct Tryz.B.c0 14 RW4:=Ct.of_wp (l:=l14) (lm:=v5b) (tp:=[]) (ct:=[10,12,16,20]) (sm:=[(16,9),(20,9)]) Tryz.bok c14 ⟨_,_,Tryz.func14,rfl⟩ fun args D r hR hD=>by
 unfold RW4 at hR
 split at hR <;> cases hR
 obtain ⟨⟨rs,rfl,rfl,hw⟩,⟨ss,rfl,rfl,hw2⟩,⟨p,rfl⟩,q,rfl⟩:=hD
 refine ⟨by simp [noHL,noH,z0t,z04],?_⟩
 rw [show z0e 0 [AV.agg [.vs (z0c rs) rs.length .none],AV.agg [.vs (z0c ss) ss.length .none],.agg (z0a p),.agg (z0a q)] = [AV.agg [.vs (z0c rs) rs.length .none],AV.agg [.vs (z0c ss) ss.length .none],.agg (z0a p),.agg (z0a q)] by simp [z0e,scrub,z1f,Tok.scrub,z2u]]
 show wpF Tryz.X14 14 _ _
 rw [v14,y2t,y2t,z0j (f:=z3v) z0u,z0j (f:=z6k) z0u,x37]
 have R1:∃ rs_1,z0c rs = z0c rs_1∧rs.length = rs_1.length∧z1h rs_1:=⟨rs,rfl,rfl,hw⟩
 have R2:∃ rs_1,z0c ss = z0c rs_1∧ss.length = rs_1.length∧z1h rs_1:=⟨ss,rfl,rfl,hw2⟩
 refine ⟨⟨rs,rfl,rfl,hw,by omega,by omega⟩,z0h (fun h=>⟨trivial,rfl⟩) (fun h=>⟨⟨ss,rfl,rfl,hw2,by omega,by omega⟩,z0h (fun h=>⟨trivial,rfl⟩) (fun h=>⟨⟨R1,⟨p,rfl⟩,q,rfl⟩,⟨R2,⟨p,rfl⟩,q,rfl⟩,z0h (fun h=>⟨trivial,rfl⟩) (fun h1=>z0h (fun h=>⟨trivial,rfl⟩) (fun h2=>⟨R1,R1,⟨R1,R2⟩,?_⟩))⟩)⟩)⟩
 have h1:(z1x rs p q).2.2.2 = 0:=by simpa using h1
 have h2:(z1x ss p q).2.2.2 = 0:=by simpa using h2
 obtain ⟨hc,hp,hq⟩:=w9l h1
 obtain ⟨hc2,_,_⟩:=w9l h2
 rw [show (z3v rs).e = 0 by rw [w13 hc,w8l],show (z6k rs).e = 0 by rw [w5j hc,w8l],show (z3d rs ss).e = 0 by rw [w7e hc hc2]]
 exact z4e Tryz.bok c14 (v7s hw hw2 hc hc2 hp hq _ _ _ _ _ _ (by rw [x48 hc hp hq]) (by rw [x48 hc2 hp hq]) (Q:=fun r'=>r' = rB true) rfl)
end
end Go.Proofs
