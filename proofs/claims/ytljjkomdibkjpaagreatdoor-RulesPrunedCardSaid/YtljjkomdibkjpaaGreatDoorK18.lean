/- Contracts of functions of the program and of the reference. -/
import Derived.Test.YtljjkomdibkjpaaGreatDoorK14
import Derived.Test.YtljjkomdibkjpaaGreatDoorK10
import Derived.Test.YtljjkomdibkjpaaGreatDoorK17
set_option linter.unusedVariables false
set_option linter.unusedSimpArgs false
set_option maxRecDepth 100000
set_option linter.unusedVariables false
namespace Go.Proofs
open Go Go.Ev
theorem w02 {p:Prf} (h:pOk p = 0):∃ i,i < 120∧(pAt i).cl = p.cl∧(pAt i).vi = p.vi∧(pAt i).ho = p.ho∧(pAt i).de = p.de∧(pAt i).mo = p.mo:=by
 have h1:okP p.cl p.vi p.cr p.le = true:=by
  unfold pOk at h
  by_cases h2:okP p.cl p.vi p.cr p.le = true
  ·exact h2
  ·rw [if_neg h2] at h; cases h
 simp only [okP,Bool.and_eq_true,decide_eq_true_eq] at h1
 obtain ⟨⟨⟨⟨⟨⟨⟨c1,c2⟩,c3⟩,c4⟩,c5⟩,c6⟩,c7⟩,c8⟩:=h1
 obtain ⟨a,ha⟩:∃ a:Nat,p.cl = a + 1:=⟨(p.cl - 1).toNat,by omega⟩
 obtain ⟨b,hb⟩:∃ b:Nat,p.vi = b:=⟨p.vi.toNat,by omega⟩
 obtain ⟨x,hx1,hx2⟩:∃ x:Nat,x < 2∧p.ho = decide (x = 1):=by cases p.ho; exact ⟨0,by omega,rfl⟩; exact ⟨1,by omega,rfl⟩
 obtain ⟨y,hy1,hy2⟩:∃ x:Nat,x < 2∧p.de = decide (x = 1):=by cases p.de; exact ⟨0,by omega,rfl⟩; exact ⟨1,by omega,rfl⟩
 obtain ⟨z,hz1,hz2⟩:∃ x:Nat,x < 2∧p.mo = decide (x = 1):=by cases p.mo; exact ⟨0,by omega,rfl⟩; exact ⟨1,by omega,rfl⟩
 refine ⟨a * 24 + (b * 8 + (x * 4 + (y * 2 + z))),by omega,?_,?_,?_,?_,?_⟩
 ·rw [ha]; simp only [pAt]; omega
 ·rw [hb]; simp only [pAt]; omega
 ·rw [hx2]; simp only [pAt]; congr 1; exact propext (by omega)
 ·rw [hy2]; simp only [pAt]; congr 1; exact propext (by omega)
 ·rw [hz2]; simp only [pAt]; congr 1; exact propext (by omega)
theorem w25 (a b:Int):∃ c,c < 3∧((wy c).1 < (wy c).2 ↔ a < b)∧((wy c).2 < (wy c).1 ↔ b < a):=by
 rcases Int.lt_trichotomy a b with h | h | h
 ·exact ⟨0,by omega,by simp [wy,h],by simp [wy]; omega⟩
 ·exact ⟨1,by omega,by simp [wy]; omega,by simp [wy]; omega⟩
 ·exact ⟨2,by omega,by simp [wy]; omega,by simp [wy,h]⟩
theorem w5b {i j c t:Nat} (hi:i < 120) (hj:j < 120) (hc:c < 3) (ht:t < 3):z2i (i * 1080 + (j * 9 + (c * 3 + t))) = (pw (pAt i) (wy c).1 (wy t).1,pw (pAt j) (wy c).2 (wy t).2):=by
 have h1:(i * 1080 + (j * 9 + (c * 3 + t))) / 1080 = i:=by omega
 have h2:(i * 1080 + (j * 9 + (c * 3 + t))) / 9 % 120 = j:=by omega
 have h3:(i * 1080 + (j * 9 + (c * 3 + t))) / 3 % 3 = c:=by omega
 have h4:(i * 1080 + (j * 9 + (c * 3 + t))) % 3 = t:=by omega
 unfold z2i
 rw [h1,h2,h3,h4]
theorem x49 {p q:Prf} (hp:pOk p = 0) (hq:pOk q = 0):∃ x ∈ csL,Sim p q x.1 x.2:=by
 obtain ⟨i,hi,i1,i2,i3,i4,i5⟩:=w02 hp
 obtain ⟨j,hj,j1,j2,j3,j4,j5⟩:=w02 hq
 obtain ⟨c,hc,c1,c2⟩:=w25 p.cr q.cr
 obtain ⟨t,ht,t1,t2⟩:=w25 p.le q.le
 refine ⟨z2i (i * 1080 + (j * 9 + (c * 3 + t))),List.mem_map_of_mem (List.mem_range.2 (by omega)),?_⟩
 rw [w5b hi hj hc ht]
 exact ⟨⟨i1,i2,i3,i4,i5⟩,⟨j1,j2,j3,j4,j5⟩,⟨c1,c2⟩,⟨t1,t2⟩⟩
theorem w26 (c:Nat):0 ≤ (wy c).1∧(wy c).1 ≤ 1∧0 ≤ (wy c).2∧(wy c).2 ≤ 1:=by
 match c with
 | 0=>simp [wy]
 | 1=>simp [wy]
 | c + 2=>simp [wy]
theorem w5a {i:Nat} (h:i < 129600):pOk (z2i i).1 = 0∧pOk (z2i i).2 = 0:=by
 obtain ⟨a1,a2,a3,a4⟩:=w26 (i / 3 % 3)
 obtain ⟨b1,b2,b3,b4⟩:=w26 (i % 3)
 have key:∀ (k:Nat) (x y:Int),k < 120→0 ≤ x→x ≤ 1→0 ≤ y→y ≤ 1→pOk (pw (pAt k) x y) = 0:=by
  intro k x y hk h1 h2 h3 h4
  unfold pOk
  rw [if_pos]
  simp only [okP,pw,pAt,Bool.and_eq_true]
  refine ⟨⟨⟨⟨⟨⟨⟨?_,?_⟩,?_⟩,?_⟩,?_⟩,?_⟩,?_⟩,?_⟩ <;> exact decide_eq_true (by omega)
 exact ⟨key _ _ _ (by omega) a1 a2 b1 b2,key _ _ _ (by omega) a3 a4 b3 b4⟩
theorem w1v {x:Prf × Prf} (h:x ∈ csL):pOk x.1 = 0∧pOk x.2 = 0:=by
 obtain ⟨i,hi,rfl⟩:=List.mem_map.1 h
 exact w5a (List.mem_range.1 hi)
end Go.Proofs
set_option maxRecDepth 100000
set_option linter.unusedVariables false
-- elP Wit
namespace Go.Proofs
open Go Go.Ev
end Go.Proofs
set_option maxRecDepth 100000
set_option linter.unusedVariables false
namespace Go.Proofs
open Go Go.Ev
theorem Sim.eqP {p q p' q':Prf} (h:Sim p q p' q') (he:eqP p' q' = true):eqP p q = true:=by
 obtain ⟨a1,a2,a3,a4,a5⟩:=h.a
 obtain ⟨b1,b2,b3,b4,b5⟩:=h.b
 unfold Go.Proofs.eqP at he ⊢
 rw [a1,a2,a3,a4,a5,b1,b2,b3,b4,b5] at he
 simp only [Bool.and_eq_true,beq_iff_eq,and_true] at he ⊢
 obtain ⟨e1,e2,e3,e4,e5,e6,e7⟩:=he
 have:=h.c
 have:=h.l
 exact ⟨e1,e2,e3,e4,e5,by omega,by omega⟩
section
variable {rs ss:List Rul} (hw:z1h rs) (hw2:z1h ss) {p q:Prf}
end
section
attribute [local irreducible] csL
variable {rs ss:List Rul} (hw:z1h rs) (hw2:z1h ss) {p q:Prf} (hc:chk rs = 0) (hc2:chk ss = 0) (hp:pOk p = 0) (hq:pOk q = 0)
include hw hc hp hq
include hw2 hc2
end
section
attribute [local irreducible] csL z2b chk z3v z6k z3d wpC wpF
variable {rs ss:List Rul} (hw:z1h rs) (hw2:z1h ss) {p q:Prf} (hc:chk rs = 0) (hc2:chk ss = 0) (hp:pOk p = 0) (hq:pOk q = 0)
include hw hw2 hc hc2
include hp hq
end
section
attribute [local irreducible] csL z2b chk z3v z6k z3d wpC wpF
end
end Go.Proofs
