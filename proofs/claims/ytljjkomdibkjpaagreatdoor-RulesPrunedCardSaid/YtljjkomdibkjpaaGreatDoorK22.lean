/- Contracts of functions of the program and of the reference. -/
import Derived.Test.YtljjkomdibkjpaaGreatDoorK20
import Derived.Test.YtljjkomdibkjpaaGreatDoorK21
import Derived.Test.YtljjkomdibkjpaaGreatDoorK17
import Derived.Test.YtljjkomdibkjpaaGreatDoorK18
set_option linter.unusedVariables false
set_option linter.unusedSimpArgs false
set_option maxRecDepth 100000
set_option linter.unusedVariables false
-- elP C19
namespace Go.Proofs
open Go Go.Ev
end Go.Proofs
set_option maxRecDepth 100000
set_option linter.unusedVariables false
namespace Go.Proofs
open Go Go.Ev
theorem y9u {rs:List Rul} {o:List Bool} {L:List Nat} {x:Rul} (h:x ∈ z3j rs o L):x ∈ rs:=by
 unfold z3j at h
 rw [List.mem_filterMap] at h
 obtain ⟨i,_,h⟩:=h
 split at h
 ·exact List.mem_of_getElem? h
 ·cases h
theorem x4c (rs:List Rul) (o:List Bool) (L:List Nat):(z3j rs o L).length ≤ L.length:=by
 unfold z3j
 exact List.length_filterMap_le _ _
theorem x9r {rs:List Rul} (hrs:z1j rs) (o:List Bool):z1h (z3j rs o (List.range rs.length)):=by
 refine ⟨?_,fun x hx=>hrs.1.2 x (y9u hx)⟩
 have h1:=x4c rs o (List.range rs.length)
 have h2:=hrs.2.1
 rw [List.length_range] at h1
 omega
section
variable {rs:List Rul} (hrs:z1j rs) {o:List Bool} {ds:List Nat} (hds:ds.length ≤ 1000) (td:Tok)
include hrs hds
end
end Go.Proofs
set_option maxRecDepth 100000
set_option linter.unusedVariables false
-- elP Wit
namespace Go.Proofs
open Go Go.Ev
def RL3:Spc:=fun args=>match args with
 | [.agg [.vs l len .none],.agg a,.agg b]=>some (w48 l len a b,rB true)
 | _=>none
noncomputable def l16:List (FuncId × Spc):=[(20,R20),(24,R24),(28,R28),(45,R45),(47,R47),(49,R49)]
def v4z:List (Nat × List Nat):=[(11,[3,7,9,11,12,13,14,15,16,72,73,74]),(16,[3,7,9,11,12,13,14,15,16])]
noncomputable def Tryz.X16:WCx:=Tryz.B.wcx l16 v4z [] [] [(11,6)]
theorem v16 (l:List AV) (len:Nat) (p q:Prf) (Q:CR→Prop):wpF Tryz.X16 16 [.agg [.vs l len .none],.agg (z0a p),.agg (z0a q)] Q =
 ((∃ (rs:List Rul),l = z0c rs∧len = rs.length∧z1h rs∧(0:Int) ≤ (12:Int)∧(12:Int) ≤ (1000:Int))∧cIf (!z0g z0c (y5v (12:Int)) false l) (True∧Q (CR.ret (Bo true))) ((∃ (rs:List Rul),l = z0c rs∧len = rs.length∧z1h rs)∧((∃ (rs:List Rul),l = z0c rs∧len = rs.length∧z1h rs)∧(∃ (p_1:Prf),(z0a p) = z0a p_1)∧∃ (q_1:Prf),(z0a q) = z0a q_1)∧cIf ((z0g z0c z5q ([],(0:Int)) l).snd != (0:Int)) (True∧cIf ((z0g z0c z5q ([],(0:Int)) l).snd == (0:Int)) (Q (CR.ret (Bo true))) (Q (CR.ret (Bo ((↑(z0g z0c z5q ([],(0:Int)) l).fst.length:Int) == (0:Int)))))) (cIf ((dvD l (z0a p) (z0a q)).snd.snd.snd != (0:Int)) (True∧cIf ((z0g z0c z5q ([],(0:Int)) l).snd == (0:Int)) (Q (CR.ret (Bo true))) (Q (CR.ret (Bo ((↑(z0g z0c z5q ([],(0:Int)) l).fst.length:Int) == (0:Int)))))) (((∃ (rs:List Rul),z0c (z0g z0c z5q ([],(0:Int)) l).fst = z0c rs∧(z0g z0c z5q ([],(0:Int)) l).fst.length = rs.length∧z1h rs)∧(∃ (p_1:Prf),(z0a p) = z0a p_1)∧∃ (q_1:Prf),(z0a q) = z0a q_1)∧(∃ (rs:List Rul),z0c (z0g z0c z5q ([],(0:Int)) l).fst = z0c rs∧(z0g z0c z5q ([],(0:Int)) l).fst.length = rs.length∧z1h rs)∧(∃ (rs:List Rul),l = z0c rs∧len = rs.length∧z1h rs)∧cIf (noHL 6 ([X,X,X,AV.ptr 0 0,X,X,X,AV.ptr 3 0,X,AV.ptr 4 0,X,AV.ptr 5 0,AV.int IntKind.i64 (dvD (z0c (z0g z0c z5q ([],(0:Int)) l).fst) (z0a p) (z0a q)).snd.snd.snd,AV.vs (encD (z0g z0c z4b ([],(0:Int)) (z0c (z0g z0c z5q ([],(0:Int)) l).fst)).fst) (z0g z0c z4b ([],(0:Int)) (z0c (z0g z0c z5q ([],(0:Int)) l).fst)).fst.length (tkZ (z0g z0c z4b ([],(0:Int)) (z0c (z0g z0c z5q ([],(0:Int)) l).fst)).fst),I (z0g z0c z4b ([],(0:Int)) (z0c (z0g z0c z5q ([],(0:Int)) l).fst)).snd,AV.vs (encD (z0g z0c z4b ([],(0:Int)) l).fst) (z0g z0c z4b ([],(0:Int)) l).fst.length (tkZ (z0g z0c z4b ([],(0:Int)) l).fst),I (z0g z0c z4b ([],(0:Int)) l).snd,X,X,X,X,X,X,X,X,X,X,X,X,X,X,X,X,X,X,X,X,X,X,X,X,X,X,X,X,X,X,X,X,X,X,X,X,X,X,X,X,X,X,X,X,X,X,X,X,X,X,X,X,X,X,X,AV.vs (encD (z0g z0c z4b ([],(0:Int)) l).fst) (z0g z0c z4b ([],(0:Int)) l).fst.length (tkZ (z0g z0c z4b ([],(0:Int)) l).fst),I (↑(z0g z0c z4b ([],(0:Int)) l).fst.length:Int),I 0]++List.replicate 65 X)) (cIf ([some (HB.cells [AV.vs l len Tok.none] 25),some (HB.cells (z0a p) 40),some (HB.cells (z0a q) 40),some (HB.cells [AV.vs (z0c (z0g z0c z5q ([],(0:Int)) l).fst) (z0g z0c z5q ([],(0:Int)) l).fst.length Tok.none] 25),some (HB.cells [AV.int IntKind.u8 (dvD l (z0a p) (z0a q)).fst,AV.int IntKind.i64 (dvD l (z0a p) (z0a q)).snd.fst,AV.int IntKind.i64 (dvD l (z0a p) (z0a q)).snd.snd.fst] 42),some (HB.cells [AV.int IntKind.u8 (dvD (z0c (z0g z0c z5q ([],(0:Int)) l).fst) (z0a p) (z0a q)).fst,AV.int IntKind.i64 (dvD (z0c (z0g z0c z5q ([],(0:Int)) l).fst) (z0a p) (z0a q)).snd.fst,AV.int IntKind.i64 (dvD (z0c (z0g z0c z5q ([],(0:Int)) l).fst) (z0a p) (z0a q)).snd.snd.fst] 42)].all (okBlk 6)) (z0l Tryz.X16 (cd Tryz.X16.P 16 [1,1,1,1,1,1,1,1,0,1,0,0]) ([X,X,X,AV.ptr 0 0,X,X,X,AV.ptr 3 0,X,AV.ptr 4 0,X,AV.ptr 5 0,AV.int IntKind.i64 (dvD (z0c (z0g z0c z5q ([],(0:Int)) l).fst) (z0a p) (z0a q)).snd.snd.snd,AV.vs (encD (z0g z0c z4b ([],(0:Int)) (z0c (z0g z0c z5q ([],(0:Int)) l).fst)).fst) (z0g z0c z4b ([],(0:Int)) (z0c (z0g z0c z5q ([],(0:Int)) l).fst)).fst.length (tkZ (z0g z0c z4b ([],(0:Int)) (z0c (z0g z0c z5q ([],(0:Int)) l).fst)).fst),I (z0g z0c z4b ([],(0:Int)) (z0c (z0g z0c z5q ([],(0:Int)) l).fst)).snd,AV.vs (encD (z0g z0c z4b ([],(0:Int)) l).fst) (z0g z0c z4b ([],(0:Int)) l).fst.length (tkZ (z0g z0c z4b ([],(0:Int)) l).fst),I (z0g z0c z4b ([],(0:Int)) l).snd,X,X,X,X,X,X,X,X,X,X,X,X,X,X,X,X,X,X,X,X,X,X,X,X,X,X,X,X,X,X,X,X,X,X,X,X,X,X,X,X,X,X,X,X,X,X,X,X,X,X,X,X,X,X,X,AV.vs (encD (z0g z0c z4b ([],(0:Int)) l).fst) (z0g z0c z4b ([],(0:Int)) l).fst.length (tkZ (z0g z0c z4b ([],(0:Int)) l).fst),I (↑(z0g z0c z4b ([],(0:Int)) l).fst.length:Int),I 0]++List.replicate 65 X) (St.mk [some (HB.cells [AV.vs l len Tok.none] 25),some (HB.cells (z0a p) 40),some (HB.cells (z0a q) 40),some (HB.cells [AV.vs (z0c (z0g z0c z5q ([],(0:Int)) l).fst) (z0g z0c z5q ([],(0:Int)) l).fst.length Tok.none] 25),some (HB.cells [AV.int IntKind.u8 (dvD l (z0a p) (z0a q)).fst,AV.int IntKind.i64 (dvD l (z0a p) (z0a q)).snd.fst,AV.int IntKind.i64 (dvD l (z0a p) (z0a q)).snd.snd.fst] 42),some (HB.cells [AV.int IntKind.u8 (dvD (z0c (z0g z0c z5q ([],(0:Int)) l).fst) (z0a p) (z0a q)).fst,AV.int IntKind.i64 (dvD (z0c (z0g z0c z5q ([],(0:Int)) l).fst) (z0a p) (z0a q)).snd.fst,AV.int IntKind.i64 (dvD (z0c (z0g z0c z5q ([],(0:Int)) l).fst) (z0a p) (z0a q)).snd.snd.fst] 42)] [] []) (z0d 0 (z0i Tryz.X16 (cd Tryz.X16.P 16 [1,1,1,1,1,1,1,1,1]) (z0f Tryz.X16 16 Q)))) False) False)))):=by kernel_rfl
theorem v4n (l pr ds d2:List AV) (len np n n2:Nat) (td t2:Tok) (p q:Prf) (k1 a1 b1 k2 a2 b2 e2 e3 e4 i:Int) (Q:CR→Prop):wpC Tryz.X16 (cd PP 16 [1,1,1,1,1,1,1,1,0,1,0,0]) ([X,X,X,.ptr 0 0,X,X,X,.ptr 3 0,X,.ptr 4 0,X,.ptr 5 0,I e2,.vs d2 n2 t2,I e3,.vs ds n td,I e4,X,X,X,X,X,X,X,X,X,X,X,X,X,X,X,X,X,X,X,X,X,X,X,X,X,X,X,X,X,X,X,X,X,X,X,X,X,X,X,X,X,X,X,X,X,X,X,X,X,X,X,X,X,X,X,.vs ds n td,I n,I i]++List.replicate 65 X) ⟨[some (.cells [.vs l len .none] 25),some (.cells (z0a p) 40),some (.cells (z0a q) 40),some (.cells [.vs pr np .none] 25),some (.cells [U k1,I a1,I b1] 42),some (.cells [U k2,I a2,I b2] 42)],[],[]⟩ (z0r Tryz.X16 (cd PP 16 [1,1,1,1,1,1,1,1,0,1,0,0]) (z0d 0 (z0i Tryz.X16 (cd PP 16 [1,1,1,1,1,1,1,1,1]) (z0f Tryz.X16 16 Q)))) =
 (cIf (decide (i < (↑n:Int))) (cIf (decide ((0:Int) ≤ i)) (cIf (decide (i.toNat < n)) (cIf (decide (n * 1 = ds.length)) (cIf (decide (0 < (List.drop (i.toNat * 1) ds).length)) (cIf (z1g (AV.ofVal (Value.int IntKind.i64 (0:Int))) ((List.drop (i.toNat * 1) ds).getD 0 X)) (cIf (cI (List.drop (i.toNat * 1) ds) 0 == a1) (Q (CR.ret (Bo false))) (cIf (cI (List.drop (i.toNat * 1) ds) 0 == b1) (Q (CR.ret (Bo false))) (cIf (noHL 6 ([X,X,X,AV.ptr 0 0,X,X,X,AV.ptr 3 0,X,AV.ptr 4 0,X,AV.ptr 5 0,I e2,AV.vs d2 n2 t2,I e3,AV.vs ds n td,I e4,X,X,X,X,X,X,X,X,X,X,X,X,X,X,X,X,X,X,X,X,X,X,X,X,X,X,X,X,X,X,X,X,X,X,X,X,X,X,X,X,X,X,X,X,X,X,X,X,X,X,X,X,X,X,X,AV.vs ds n td,I n,I (IntKind.i64.wrap (i + (1:Int)))]++List.replicate 65 X)) (cIf ([some (HB.cells [AV.vs l len Tok.none] 25),some (HB.cells (z0a p) 40),some (HB.cells (z0a q) 40),some (HB.cells [AV.vs pr np Tok.none] 25),some (HB.cells [U k1,I a1,I b1] 42),some (HB.cells [U k2,I a2,I b2] 42)].all (okBlk 6)) (z0l Tryz.X16 (cd PP 16 [1,1,1,1,1,1,1,1,0,1,0,0]) ([X,X,X,AV.ptr 0 0,X,X,X,AV.ptr 3 0,X,AV.ptr 4 0,X,AV.ptr 5 0,I e2,AV.vs d2 n2 t2,I e3,AV.vs ds n td,I e4,X,X,X,X,X,X,X,X,X,X,X,X,X,X,X,X,X,X,X,X,X,X,X,X,X,X,X,X,X,X,X,X,X,X,X,X,X,X,X,X,X,X,X,X,X,X,X,X,X,X,X,X,X,X,X,AV.vs ds n td,I n,I (IntKind.i64.wrap (i + (1:Int)))]++List.replicate 65 X) (St.mk [some (HB.cells [AV.vs l len Tok.none] 25),some (HB.cells (z0a p) 40),some (HB.cells (z0a q) 40),some (HB.cells [AV.vs pr np Tok.none] 25),some (HB.cells [U k1,I a1,I b1] 42),some (HB.cells [U k2,I a2,I b2] 42)] [] []) (z0d 0 (z0i Tryz.X16 (cd PP 16 [1,1,1,1,1,1,1,1,1]) (z0f Tryz.X16 16 Q)))) False) False))) False) False) False) False) False) (((∃ (rs:List Rul),l = z0c rs∧len = rs.length∧z1h rs)∧∃ (ss:List Rul),pr = z0c ss∧np = ss.length∧z1h ss)∧True∧cIf (e2 == (0:Int)) (cIf (k2 == k1) (cIf (e3 == (0:Int)) (cIf ((↑n2:Int) == (0:Int)) (cIf (e4 == (0:Int)) (cIf (IntKind.i64.wrap ((↑n:Int) + (↑np:Int)) == (↑len:Int)) (cIf ((on2 z3d l pr).e == (0:Int)) (Q (CR.ret (Bo (on2 z3d l pr).f))) (Q (CR.ret (Bo false)))) (Q (CR.ret (Bo false)))) (Q (CR.ret (Bo false)))) (Q (CR.ret (Bo false)))) (Q (CR.ret (Bo false)))) (Q (CR.ret (Bo false)))) (Q (CR.ret (Bo false))))):=by kernel_rfl
end Go.Proofs
set_option maxRecDepth 100000
set_option linter.unusedVariables false
namespace Go.Proofs
open Go Go.Ev
section
attribute [local irreducible] csL
theorem y79 {rs:List Rul} {k:Nat} {r:Rul} (h:rs[k]? = some r) (p q:Prf):thR rs p q k = hoT r.t p q:=by simp only [thR,h]
theorem x5u {rs:List Rul} {k:Nat} {r:Rul} (h:rs[k]? = some r):rkR rs k = r.rank:=by simp only [rkR,h]
theorem w11 {rs:List Rul} (hrs:z1j rs) (x:Prf × Prf):DInv (rkR rs) (thR rs x.1 x.2) (thR rs x.2 x.1) ((List.range rs.length).reverse++[]) (z2c rs x.1 x.2).1 (z2c rs x.1 x.2).2 (y72 rs x):=by
 have h0:DInv (rkR rs) (thR rs x.1 x.2) (thR rs x.2 x.1) [] (-1) (-1) 0:=⟨.inl rfl,fun i hi=>by simp at hi,.inl ⟨rfl,fun i hi=>by simp at hi⟩,.inl ⟨rfl,fun i hi=>by simp at hi⟩⟩
 rw [v1e hrs]
 exact y5z (rkR rs) (thR rs x.1 x.2) (thR rs x.2 x.1) (x1i hrs) (List.range rs.length) [] _ _ _ h0 (fun i _ j hj=>by simp at hj) List.pairwise_lt_range
theorem w07 {n j:Nat}:j ∈ (List.range n).reverse++[] ↔ j < n:=by simp
theorem w10 {rk:Nat→Int} {n:Nat} {t:Nat→Bool} {R v:Int} (h:Lst rk ((List.range n).reverse++[]) t R v):(0 ≤ v ↔ ∃ i,i < n∧t i = true∧rk i = R)∧∀ i:Nat,v = i→i < n∧t i = true∧rk i = R:=by
 rcases h with ⟨rfl,h⟩ | ⟨i,hi,rfl,h1,h2,_⟩
 ·refine ⟨⟨fun h=>by omega,fun ⟨i,hi,h1,h2⟩=>?_⟩,fun i hi=>by omega⟩
  have:=h i (w07.2 hi) h2
  rw [h1] at this; cases this
 ·refine ⟨⟨fun _=>⟨i,w07.1 hi,h1,h2⟩,fun _=>by omega⟩,fun j hj=>?_⟩
  obtain rfl:i = j:=by omega
  exact ⟨w07.1 hi,h1,h2⟩
def w2s (rs:List Rul) (p q:Prf) (R:Int):Prop:=∃ r ∈ rs,hoT r.t p q = true∧r.rank = R
theorem w8k {rs:List Rul} {p q:Prf} {R:Int}:(∃ i,i < rs.length∧thR rs p q i = true∧rkR rs i = R) ↔ w2s rs p q R:=by
 constructor
 ·rintro ⟨i,hi,h1,h2⟩
  have hx:=List.getElem?_eq_getElem hi
  rw [y79 hx] at h1
  rw [x5u hx] at h2
  exact ⟨_,List.getElem_mem hi,h1,h2⟩
 ·rintro ⟨r,hr,h1,h2⟩
  obtain ⟨i,hi,rfl⟩:=List.getElem_of_mem hr
  have hx:=List.getElem?_eq_getElem hi
  exact ⟨i,hi,by rw [y79 hx]; exact h1,by rw [x5u hx]; exact h2⟩
theorem v5o {rs:List Rul} (hrs:z1j rs) (x:Prf × Prf):0 ≤ (z2c rs x.1 x.2).1 ↔ w2s rs x.1 x.2 (y72 rs x):=by rw [(w10 (w11 hrs x).a).1]; exact w8k
theorem v5n {rs:List Rul} (hrs:z1j rs) (x:Prf × Prf):0 ≤ (z2c rs x.1 x.2).2 ↔ w2s rs x.2 x.1 (y72 rs x):=by rw [(w10 (w11 hrs x).b).1]; exact w8k
theorem w9m {rs:List Rul} (hrs:z1j rs) (x:Prf × Prf) {r:Rul} (hr:r ∈ rs) (hf:hoT r.t x.1 x.2 = true ∨ hoT r.t x.2 x.1 = true):r.rank ≤ y72 rs x:=by
 obtain ⟨i,hi,rfl⟩:=List.getElem_of_mem hr
 have hx:=List.getElem?_eq_getElem hi
 have:=(w11 hrs x).le i (w07.2 hi) (by rw [y79 hx,y79 hx,Bool.or_eq_true]; exact hf)
 rw [x5u hx] at this
 exact this
theorem w3f {rs:List Rul} (hrs:z1j rs) (x:Prf × Prf):y72 rs x = 0 ∨ ∃ r ∈ rs,(hoT r.t x.1 x.2 = true ∨ hoT r.t x.2 x.1 = true)∧r.rank = y72 rs x:=by
 rcases (w11 hrs x).top with h | ⟨i,hi,h1,h2⟩
 ·exact .inl h
 ·have hi:=w07.1 hi
  have hx:=List.getElem?_eq_getElem hi
  rw [y79 hx,y79 hx,Bool.or_eq_true] at h1
  rw [x5u hx] at h2
  exact .inr ⟨_,List.getElem_mem hi,h1,h2⟩
theorem rank_pos {rs:List Rul} (hrs:z1j rs) {r:Rul} (hr:r ∈ rs):0 < r.rank:=by have:=(hrs.2.2 r hr).1; omega
def OkX (x:Prf × Prf):Prop:=∃ y ∈ csL,Sim x.1 x.2 y.1 y.2
theorem w7k {x:Prf × Prf} (h:x ∈ csL):OkX x:=by
 obtain ⟨h1,h2⟩:=w1v h
 exact x49 h1 h2
theorem w8j {rs:List Rul} (hsh:∀ x ∈ rs,shT x.t = true) {x y:Prf × Prf} (h:Sim x.1 x.2 y.1 y.2):decides rs y = decides rs x:=by
 unfold decides
 rw [x8g hsh h,x8g hsh h.swap]
theorem w4v {rs:List Rul} {k:Nat} (hk:k < rs.length):(z2l rs).getD k false = csL.any fun x=>(decides rs x).contains k:=by
 unfold z2l
 rw [List.getD_eq_getElem?_getD,List.getElem?_map,List.getElem?_range hk]
 rfl
theorem x91 {rs:List Rul} (hsh:∀ x ∈ rs,shT x.t = true) {x:Prf × Prf} (hx:OkX x) {k:Nat} (h:k ∈ decides rs x):(z2l rs).getD k false = true:=by
 obtain ⟨y,hy,hs⟩:=hx
 rw [w4v (x0u rs x k h),List.any_eq_true]
 exact ⟨y,hy,by rw [w8j hsh hs,List.contains_iff_mem]; exact h⟩
theorem w5g {rs:List Rul} {r:Rul}:r ∈ z9x rs ↔ ∃ k,k < rs.length∧(z2l rs).getD k false = true∧rs[k]? = some r:=by
 unfold z9x z3j
 rw [List.mem_filterMap]
 constructor
 ·rintro ⟨k,hk,h⟩
  split at h
  ·rename_i ho
   exact ⟨k,List.mem_range.1 hk,ho,h⟩
  ·cases h
 ·rintro ⟨k,hk,h1,h2⟩
  exact ⟨k,List.mem_range.2 hk,by rw [if_pos h1]; exact h2⟩
section
variable {rs:List Rul} (hrs:z1j rs) (hsh:∀ x ∈ rs,shT x.t = true)
include hrs hsh
theorem w1z:z1j (z9x rs)∧∀ x ∈ z9x rs,shT x.t = true:=by
 have h1:∀ x ∈ z9x rs,x ∈ rs:=fun x hx=>y9u hx
 refine ⟨⟨x9r hrs _,?_,fun x hx=>hrs.2.2 x (h1 x hx)⟩,fun x hx=>hsh x (h1 x hx)⟩
 have h2:=x4c rs (z2l rs) (List.range rs.length)
 have h3:=hrs.2.1
 rw [List.length_range] at h2
 show (z3j rs (z2l rs) (List.range rs.length)).length ≤ 24
 omega
theorem w7c {x:Prf × Prf} (hx:OkX x) {r:Rul} (hr:r ∈ rs) (hf:hoT r.t x.1 x.2 = true ∨ hoT r.t x.2 x.1 = true) (h:r.rank = y72 rs x):r ∈ z9x rs:=by
 obtain ⟨i,hi,rfl⟩:=List.getElem_of_mem hr
 have hg:=List.getElem?_eq_getElem hi
 refine w5g.2 ⟨i,hi,x91 hsh hx ((y6z hrs x i).2 ⟨hi,?_,?_⟩),hg⟩
 ·rw [y79 hg,y79 hg,Bool.or_eq_true]; exact hf
 ·rw [x5u hg]; exact h
theorem w2b {x:Prf × Prf} (hx:OkX x):y72 (z9x rs) x = y72 rs x:=by
 obtain ⟨hp,_⟩:=w1z hrs hsh
 have hle:y72 (z9x rs) x ≤ y72 rs x:=by
  rcases w3f hp x with h | ⟨r,hr,hf,h⟩
  ·rcases w3f hrs x with h2 | ⟨r2,hr2,_,h2⟩
   ·omega
   ·have:=rank_pos hrs hr2; omega
  ·have:=w9m hrs x (y9u hr) hf; omega
 rcases w3f hrs x with h | ⟨r,hr,hf,h⟩
 ·rcases w3f hp x with h2 | ⟨r2,hr2,_,h2⟩
  ·omega
  ·have:=rank_pos hp hr2; omega
 ·have:=w9m hp x (w7c hrs hsh hx hr hf h) hf
  omega
theorem v0w {x:Prf × Prf} (hx:OkX x):(w2s (z9x rs) x.1 x.2 (y72 rs x) ↔ w2s rs x.1 x.2 (y72 rs x))∧(w2s (z9x rs) x.2 x.1 (y72 rs x) ↔ w2s rs x.2 x.1 (y72 rs x)) :=
  ⟨⟨fun ⟨r,hr,h1,h2⟩=>⟨r,y9u hr,h1,h2⟩,fun ⟨r,hr,h1,h2⟩=>⟨r,w7c hrs hsh hx hr (.inl h1) h2,h1,h2⟩⟩,
   ⟨fun ⟨r,hr,h1,h2⟩=>⟨r,y9u hr,h1,h2⟩,fun ⟨r,hr,h1,h2⟩=>⟨r,w7c hrs hsh hx hr (.inr h1) h2,h1,h2⟩⟩⟩
theorem w9t {v w v' w':Int} (h1:0 ≤ v ↔ 0 ≤ v') (h2:0 ≤ w ↔ 0 ≤ w'):z01 v w = z01 v' w':=by
 have _:=hrs; have _:=hsh
 unfold z01
 by_cases a:0 ≤ v <;> by_cases b:0 ≤ w
 ·rw [if_pos ⟨a,b⟩,if_pos ⟨h1.1 a,h2.1 b⟩]
 ·have a':=h1.1 a
  have b':¬ 0 ≤ w':=fun h=>b (h2.2 h)
  rw [if_neg (fun h=>b h.2),if_pos a,if_neg (fun h=>b' h.2),if_pos a']
 ·have a':¬ 0 ≤ v':=fun h=>a (h1.2 h)
  have b':=h2.1 b
  rw [if_neg (fun h=>a h.1),if_neg a,if_pos b,if_neg (fun h=>a' h.1),if_neg a',if_pos b']
 ·have a':¬ 0 ≤ v':=fun h=>a (h1.2 h)
  have b':¬ 0 ≤ w':=fun h=>b (h2.2 h)
  rw [if_neg (fun h=>a h.1),if_neg a,if_neg b,if_neg (fun h=>a' h.1),if_neg a',if_neg b']
theorem w5f {x:Prf × Prf} (hx:OkX x):kdV (z9x rs) x = kdV rs x:=by
 obtain ⟨hp,_⟩:=w1z hrs hsh
 obtain ⟨h1,h2⟩:=v0w hrs hsh hx
 unfold kdV
 refine w9t hrs hsh ?_ ?_
 ·rw [v5o hp x,v5o hrs x,w2b hrs hsh hx]; exact h1
 ·rw [v5n hp x,v5n hrs x,w2b hrs hsh hx]; exact h2
theorem w9p:(z2b rs (z9x rs)).f = false:=by
 unfold z2b
 have:csL.find? (z96 rs (z9x rs)) = none:=by
  rw [List.find?_eq_none]
  intro x hx h
  unfold z96 at h
  rw [w5f hrs hsh (w7k hx)] at h
  simp at h
 rw [this]
 rfl
theorem w9q:y78 (z9x rs) = []:=by
 obtain ⟨hp,hps⟩:=w1z hrs hsh
 unfold y78
 rw [List.filter_eq_nil_iff]
 intro k hk
 have hk:=List.mem_range.1 hk
 have hg:=List.getElem?_eq_getElem hk
 obtain ⟨i,hi,h1,h2⟩:=w5g.1 (List.getElem_mem hk)
 rw [w4v hi,List.any_eq_true] at h1
 obtain ⟨x,hx,h3⟩:=h1
 rw [List.contains_iff_mem,y6z hrs] at h3
 obtain ⟨_,h4,h5⟩:=h3
 rw [y79 h2,y79 h2] at h4
 rw [x5u h2] at h5
 have:(z2l (z9x rs)).getD k false = true:=x91 hps (w7k hx) ((y6z hp x k).2 ⟨hk,by rw [y79 hg,y79 hg]; exact h4,by rw [x5u hg,w2b hrs hsh (w7k hx)]; exact h5⟩)
 rw [this]; simp
theorem v1f {x:Prf × Prf} (hx:OkX x):∀ k ∈ y78 rs,(k:Int) ≠ (z2c rs x.1 x.2).1∧(k:Int) ≠ (z2c rs x.1 x.2).2:=by
 intro k hk
 obtain ⟨h1,h2⟩:=List.mem_filter.1 hk
 have ha:(z2l rs).getD k false = false:=by simpa using h2
 refine ⟨fun h=>?_,fun h=>?_⟩
 ·obtain ⟨a,b,c⟩:=(w10 (w11 hrs x).a).2 k h.symm
  have:=x91 hsh hx ((y6z hrs x k).2 ⟨a,by rw [b]; rfl,c⟩)
  rw [this] at ha; cases ha
 ·obtain ⟨a,b,c⟩:=(w10 (w11 hrs x).b).2 k h.symm
  have:=x91 hsh hx ((y6z hrs x k).2 ⟨a,by rw [b,Bool.or_true],c⟩)
  rw [this] at ha; cases ha
end
end
theorem w3v {rs:List Rul} (o:List Bool):∀ (L:List Nat),(∀ k ∈ L,k < rs.length)→(L.filter fun i=>!o.getD i false).length + (z3j rs o L).length = L.length
 | [],_=>rfl
 | k :: L,h=>by
  have ih:=w3v o L fun j hj=>h j (List.mem_cons_of_mem _ hj)
  have hg:=List.getElem?_eq_getElem (h k List.mem_cons_self)
  cases ho:o.getD k false with
  | true =>
   rw [y6j L ho hg,List.filter_cons_of_neg (by rw [ho]; simp),List.length_cons,List.length_cons]; omega
  | false =>
   rw [y6k L ho,List.filter_cons_of_pos (p:=fun i=>!o.getD i false) (by rw [ho]; rfl),List.length_cons,List.length_cons]; omega
theorem w9a (rs:List Rul):(y78 rs).length + (z9x rs).length = rs.length:=by
 have:=w3v (rs:=rs) (z2l rs) (List.range rs.length) fun k hk=>List.mem_range.1 hk
 rw [List.length_range] at this
 exact this
theorem v1p (rs:List Rul) (o:List Bool):∀ (d i:Nat) (prev prev':List Rul),rs.length - i = d→i ≤ rs.length→(∀ x ∈ prev',x ∈ prev)→z5j prev (rs.drop i) = 0→z5j prev' (z3j rs o ((List.range rs.length).drop i)) = 0:=by
 intro d
 induction d with
 | zero =>
  intro i prev prev' hd hi hs h
  rw [List.drop_of_length_le (by simp; omega)]
  rfl
 | succ d ih =>
  intro i prev prev' hd hi hs h
  have hlt:i < rs.length:=by omega
  obtain ⟨x,hx,hdr⟩:=z1p hlt
  rw [hdr] at h
  rw [z5e hlt]
  simp only [z5j] at h
  by_cases h1:z1s x.name = false
  ·rw [if_pos h1] at h; cases h
  rw [if_neg h1] at h
  by_cases h2:(prev.any fun y=>y.name == x.name) = true
  ·rw [if_pos h2] at h; cases h
  rw [if_neg h2] at h
  by_cases h3:z2h x = false
  ·rw [if_pos h3] at h; cases h
  rw [if_neg h3] at h
  by_cases h4:z4h x.t = false
  ·rw [if_pos h4] at h; cases h
  rw [if_neg h4] at h
  by_cases h5:shT x.t = false
  ·rw [if_pos h5] at h; cases h
  rw [if_neg h5] at h
  cases hg:o.getD i false with
  | true =>
   rw [y6j _ hg hx]
   simp only [z5j]
   rw [if_neg h1,if_neg (fun h6=>h2 (by
    rw [List.any_eq_true] at h6 ⊢
    obtain ⟨y,hy,h7⟩:=h6
    exact ⟨y,hs y hy,h7⟩)),if_neg h3,if_neg h4,if_neg h5]
   refine ih (i + 1) (prev++[x]) (prev'++[x]) (by omega) (by omega) (fun y hy=>?_) h
   rcases List.mem_append.1 hy with hy | hy
   ·exact List.mem_append_left _ (hs y hy)
   ·exact List.mem_append_right _ hy
  | false =>
   rw [y6k _ hg]
   exact ih (i + 1) (prev++[x]) prev' (by omega) (by omega) (fun y hy=>List.mem_append_left _ (hs y hy)) h
theorem w2c {rs:List Rul} (h:chk rs = 0):chk (z9x rs) = 0:=by
 have h1:=x4c rs (z2l rs) (List.range rs.length)
 rw [List.length_range] at h1
 have h2:(z9x rs).length ≤ rs.length:=h1
 unfold chk at h ⊢
 by_cases h3:rs.length > 24
 ·rw [if_pos h3] at h; cases h
 ·rw [if_neg h3] at h
  rw [if_neg (by omega)]
  exact v1p rs (z2l rs) rs.length 0 [] [] (by omega) (by omega) (fun x hx=>hx) h
theorem w8f {rs:List Rul} {p q:Prf} (h:z1v rs p q = 0):pOk p = 0∧pOk q = 0:=by
 have h0:=y2y h
 cases h1:okP p.cl p.vi p.cr p.le with
 | false=>rw [x3i h0 h1] at h; cases h
 | true =>
  cases h2:okP q.cl q.vi q.cr q.le with
  | false=>rw [x3h h0 h1 h2] at h; cases h
  | true=>exact ⟨by unfold pOk; rw [if_pos h1],by unfold pOk; rw [if_pos h2]⟩
theorem w9r {rs:List Rul} {p q:Prf} (h:z1v rs p q = 0):z1v (z9x rs) p q = 0:=by
 have h0:=w2c (y2y h)
 have h0':=y2y h
 cases h1:okP p.cl p.vi p.cr p.le with
 | false=>rw [x3i h0' h1] at h; cases h
 | true =>
  cases h2:okP q.cl q.vi q.cr q.le with
  | false=>rw [x3h h0' h1 h2] at h; cases h
  | true=>exact x5 h0 h1 h2
theorem c16:Cts Tryz.B l16:=((((((Cts.nil _).cons v1i).cons v1j).cons v1k).cons x9z).cons x77).cons x78
theorem o16:Tryz.X16.Ones:=z0y Tryz.bok c16
theorem k16:CxOk Tryz.X16.cx:=z1e Tryz.bok c16
theorem e16 (ds d2:List Nat) (td t2:Tok) (n n2:Nat) (e2 e3 e4 i:Int):noHL 6 ([X,X,X,AV.ptr 0 0,X,X,X,AV.ptr 3 0,X,AV.ptr 4 0,X,AV.ptr 5 0,I e2,AV.vs (encD d2) n2 t2,I e3,AV.vs (encD ds) n td,I e4,X,X,X,X,X,X,X,X,X,X,X,X,X,X,X,X,X,X,X,X,X,X,X,X,X,X,X,X,X,X,X,X,X,X,X,X,X,X,X,X,X,X,X,X,X,X,X,X,X,X,X,X,X,X,X,AV.vs (encD ds) n td,I (n:Int),I i]++List.replicate 65 X) = true:=by
 refine z6j ?_ (z2e 6 65)
 simp [noHL,noH,z1t]
theorem b16 (rs pr:List Rul) (p q:Prf) (k1 a1 b1 k2 a2 b2:Int):[some (HB.cells [AV.vs (z0c rs) rs.length Tok.none] 25),some (HB.cells (z0a p) 40),some (HB.cells (z0a q) 40),some (HB.cells [AV.vs (z0c pr) pr.length Tok.none] 25),some (HB.cells [U k1,I a1,I b1] 42),some (HB.cells [U k2,I a2,I b2] 42)].all (okBlk 6) = true:=by
 simp [okBlk,noHB,noHL,noH,z0t,z04]
section
attribute [local irreducible] csL wpF z2b z2c
theorem v7l {rs pr:List Rul} (hw:z1h rs) (hp:z1h pr) {ds:List Nat} (hds:ds.length ≤ 1000) (td t2:Tok) (p q:Prf) {k a1 b1 a2 b2:Int} (hne:∀ x ∈ ds,(x:Int) ≠ a1∧(x:Int) ≠ b1) (hn:ds.length + pr.length = rs.length) (hlen:rs.length ≤ 1000) (hs:(z3d rs pr).e = 0∧(z3d rs pr).f = true):∀ (d i:Nat),ds.length - i = d→i ≤ ds.length →
  z0l Tryz.X16 (cd PP 16 [1,1,1,1,1,1,1,1,0,1,0,0]) ([X,X,X,.ptr 0 0,X,X,X,.ptr 3 0,X,.ptr 4 0,X,.ptr 5 0,I 0,.vs (encD []) 0 t2,I 0,.vs (encD ds) ds.length td,I 0,X,X,X,X,X,X,X,X,X,X,X,X,X,X,X,X,X,X,X,X,X,X,X,X,X,X,X,X,X,X,X,X,X,X,X,X,X,X,X,X,X,X,X,X,X,X,X,X,X,X,X,X,X,X,X,.vs (encD ds) ds.length td,I ds.length,I i]++List.replicate 65 X) ⟨[some (.cells [.vs (z0c rs) rs.length .none] 25),some (.cells (z0a p) 40),some (.cells (z0a q) 40),some (.cells [.vs (z0c pr) pr.length .none] 25),some (.cells [U k,I a1,I b1] 42),some (.cells [U k,I a2,I b2] 42)],[],[]⟩ (z0d 0 (z0i Tryz.X16 (cd PP 16 [1,1,1,1,1,1,1,1,1]) (z0f Tryz.X16 16 fun r'=>r' = rB true))):=by
 intro d
 induction d with
 | zero =>
  intro i hd hi
  have hi':i = ds.length:=by omega
  subst hi'
  refine z0n (C:=Tryz.X16) o16 k16 ?_
  rw [v4n,on2,z0j z0u,z0j z0u,hs.1,hs.2]
  refine z0p (decide_eq_false (by omega)) ⟨⟨⟨_,rfl,rfl,hw⟩,_,rfl,rfl,hp⟩,trivial,?_⟩
  refine z0b rfl (z0b (by simp) (z0b rfl (z0b rfl (z0b rfl (z0b ?_ (z0b rfl rfl))))))
  rw [z09 (by omega) (by omega)]
  rw [beq_iff_eq]; omega
 | succ d ih =>
  intro i hd hi
  have hlt:i < ds.length:=by omega
  obtain ⟨h1,h2⟩:=hne _ (z9f hlt)
  refine z0n (C:=Tryz.X16) o16 k16 ?_
  rw [v4n,y1d hlt,wA1 (a:=i) (by omega)]
  refine z0b (decide_eq_true (by omega)) (z0b (z0z _) (z0b (row_in hlt) (z0b (decide_eq_true (by rw [z4v]; omega)) (z0b (z86 hlt) (z0b (y1c hlt) (z0p (by simpa using h1) (z0p (by simpa using h2) (z0b (e16 ds [] td t2 ds.length 0 _ _ _ _) (z0b (b16 _ _ _ _ _ _ _ _ _ _) (ih (i + 1) (by omega) (by omega)))))))))))
theorem w16 {rs:List Rul} (hw:z1h rs) (p q:Prf):wpF Tryz.X16 16 [.agg [.vs (z0c rs) rs.length .none],.agg (z0a p),.agg (z0a q)] fun r'=>r' = rB true:=by
 rw [v16,z0j z0u,z0j z0u,y2t]
 refine ⟨⟨rs,rfl,rfl,hw,by omega,by omega⟩,z0h (fun h=>⟨trivial,rfl⟩) (fun hf=>⟨⟨rs,rfl,rfl,hw⟩,⟨⟨rs,rfl,rfl,hw⟩,⟨p,rfl⟩,q,rfl⟩,?_⟩)⟩
 by_cases h:chk rs = 0
 ·rw [show z5q rs = (z9x rs,0) by unfold z5q; rw [if_pos h]]
  refine z0p rfl (z0h (fun h2=>⟨trivial,z0b rfl rfl⟩) (fun h2=>?_))
  obtain ⟨hrs,hsh,_⟩:=z8x hw h
  have hb:z1v rs p q = 0:=by
   by_cases hb:z1v rs p q = 0
   ·exact hb
   ·have h2:(z1x rs p q).2.2.2 = 0:=by simpa using h2
    unfold z1x at h2
    rw [if_neg hb] at h2
    exact absurd h2 hb
  have hb':=w9r hb
  obtain ⟨hp,hps⟩:=w1z hrs hsh
  have hx:OkX (p,q):=x49 (w8f hb).1 (w8f hb).2
  have hn:=hrs.2.1
  have hc:=w9a rs
  have hv:z1x rs p q = (kdV rs (p,q),(z2c rs p q).1,(z2c rs p q).2,0):=by unfold z1x; rw [if_pos hb]; rfl
  have hv':z1x (z9x rs) p q = (kdV rs (p,q),(z2c (z9x rs) p q).1,(z2c (z9x rs) p q).2,0):=by
   unfold z1x
   rw [if_pos hb',← w5f hrs hsh hx]; rfl
  have hd:z4b rs = (y78 rs,0):=by unfold z4b; rw [if_pos h]
  have hd':z4b (z9x rs) = ([],0):=by unfold z4b; rw [if_pos (w2c h),w9q hrs hsh]
  have hs:(z3d rs (z9x rs)).e = 0∧(z3d rs (z9x rs)).f = true:=by
   unfold z3d
   rw [if_pos h,if_pos (w2c h)]
   exact ⟨rfl,by rw [w9p hrs hsh]; rfl⟩
  show _∧_
  rw [z0j z0u,z0j z0u,y2t,hv,hv',hd,hd']
  refine ⟨⟨⟨_,rfl,rfl,hp.1⟩,⟨p,rfl⟩,q,rfl⟩,⟨_,rfl,rfl,hp.1⟩,⟨rs,rfl,rfl,hw⟩,z0b (e16 (y78 rs) [] _ _ _ 0 _ _ _ _) (z0b (b16 _ _ _ _ _ _ _ _ _ _) ?_)⟩
  exact v7l hw hp.1 (by omega) _ _ p q (v1f hrs hsh hx) hc (by omega) hs (y78 rs).length 0 (by omega) (by omega)
 ·rw [show z5q rs = ([],chk rs) by unfold z5q; rw [if_neg h]]
  refine z0b (by simpa using h) ⟨trivial,z0p (by simpa using h) rfl⟩
end
theorem ct16:Ct Tryz.B.c0 16 RL3:=Ct.of_wp (l:=l16) (lm:=v4z) (tp:=[]) (ct:=[]) (sm:=[(11,6)]) Tryz.bok c16 ⟨_,_,Tryz.func16,rfl⟩ fun args D r hR hD=>by
 unfold RL3 at hR
 split at hR <;> cases hR
 obtain ⟨⟨rs,rfl,rfl,hw⟩,⟨p,rfl⟩,q,rfl⟩:=hD
 refine ⟨by simp [noHL,noH,z0t,z04],?_⟩
 rw [show z0e 0 [AV.agg [.vs (z0c rs) rs.length .none],.agg (z0a p),.agg (z0a q)] = [AV.agg [.vs (z0c rs) rs.length .none],.agg (z0a p),.agg (z0a q)] by simp [z0e,scrub,z1f,Tok.scrub,z2u]]
 exact w16 hw p q
end Go.Proofs
