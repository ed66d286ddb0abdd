/- Contracts of functions of the program and of the reference. -/
import Derived.Test.YtljjkomdibkjpaaGreatDoorE5
import Derived.Test.YtljjkomdibkjpaaGreatDoorCx
set_option linter.unusedVariables false
set_option linter.unusedSimpArgs false
set_option linter.unusedVariables false
set_option maxRecDepth 100000
namespace Go.Ev
abbrev I (n:Int):AV:=.int .i64 n
abbrev U (n:Int):AV:=.int .u8 n
abbrev Bo (b:Bool):AV:=.bool b
abbrev X:AV:=.bad
abbrev rI (n:Int):CR:=.ret (.int .i64 n)
abbrev rB (b:Bool):CR:=.ret (.bool b)
end Go.Ev
namespace Go.Proofs
open Go Go.Ev
noncomputable def Tryz.B:Base:={ P:=Tryz.prog,gt:=Tryz.gt,eqt:=[28,40,42,61],nat:=y8q 169 203 150,hw:=fun _=>none }
theorem Tryz.gtpB:z3w Tryz.B.c0:=by
 intro g l h
 simp only [Tryz.B,Base.c0,Tryz.gt] at h
 split at h <;> cases h <;> exact ⟨by kernel_rfl,by kernel_rfl⟩
theorem Tryz.bok:BaseOk Tryz.B where
 eqt:=fun t h=>by
  simp only [Tryz.B,List.contains_cons,List.contains_nil,Bool.or_false,Bool.or_eq_true,beq_iff_eq] at h
  rcases h with rfl | rfl | rfl | rfl <;> kernel_rfl
 codes:=Tryz.c0ok.codes
 nat:=Tryz.c0ok.nat
 mixed:=Tryz.c0ok.mixed
 names:=Tryz.c0ok.names
 gtp:=Tryz.gtpB
 hw:=fun g W h=>by cases h
end Go.Proofs
set_option linter.unusedVariables false
namespace Go.Ev

inductive Tst where
 | mk (op attr side n:Int) (of:List Tst)
def Tst.op:Tst→Int | .mk a _ _ _ _=>a
def Tst.attr:Tst→Int | .mk _ a _ _ _=>a
def Tst.side:Tst→Int | .mk _ _ a _ _=>a
def Tst.n:Tst→Int | .mk _ _ _ a _=>a
def Tst.of:Tst→List Tst | .mk _ _ _ _ a=>a
mutual
def z0m:Tst→List AV
 | .mk op attr side n of=>[U op,U attr,U side,I n,.vs (z0q of) of.length .none]
def z0q:List Tst→List AV
 | []=>[]
 | t :: l=>z0m t++z0q l
end
structure Rul where
 name:List UInt8
 rank:Int
 weight:Int
 t:Tst
def z1d (x:Rul):List AV:=[.str x.name,I x.rank,I x.weight,U x.t.op,U x.t.attr,U x.t.side,I x.t.n,.vs (z0q x.t.of) x.t.of.length .none]
def z0c:List Rul→List AV
 | []=>[]
 | x :: l=>z1d x++z0c l
structure Prf where
 cl:Int
 vi:Int
 ho:Bool
 de:Bool
 mo:Bool
 cr:Int
 le:Int
def z0a (p:Prf):List AV:=[I p.cl,I p.vi,Bo p.ho,Bo p.de,Bo p.mo,I p.cr,I p.le]
theorem y4q (t:Tst):z0m t = [U t.op,U t.attr,U t.side,I t.n,.vs (z0q t.of) t.of.length .none]:=by cases t; rfl
theorem z9i (t:Tst):(z0m t).length = 5:=by cases t; rfl
theorem z1n:∀ l:List Tst,(z0q l).length = l.length * 5
 | []=>rfl
 | t :: l=>by simp only [z0q,List.length_append,z9i,z1n l,List.length_cons]; omega
theorem z8c (x:Rul):(z1d x).length = 8:=rfl
theorem z02:∀ l:List Rul,(z0c l).length = l.length * 8
 | []=>rfl
 | t :: l=>by simp only [z0c,List.length_append,z8c,z02 l,List.length_cons]; omega

def y0e (t:Tst):List AV:=[U t.op,U t.attr,U t.side,I t.n,.vs (z0q t.of) t.of.length .none]
theorem y92 (t:Tst):y0e t = z0m t:=(y4q t).symm
def elT (E:List AV):List AV:=[U (cI E 0),U (cI E 1),U (cI E 2),I (cI E 3),.vs (cL E 4) (cN E 4) (cT E 4)]
def elR (E:List AV):List AV:=[.str (cS E 0),I (cI E 1),I (cI E 2),U (cI E 3),U (cI E 4),U (cI E 5),I (cI E 6),.vs (cL E 7) (cN E 7) (cT E 7)]
def zT:List AV:=[U 0,U 0,U 0,I 0,.vs [] 0 .zero]
def zR:List AV:=[.str [],I 0,I 0,U 0,U 0,U 0,I 0,.vs [] 0 .zero]
theorem z6m (x:Tst):elT (z0m x) = z0m x:=by cases x; rfl
theorem z2w (x:Tst):like zT (z0m x) = true:=by cases x; rfl
theorem y2s (x:Rul):elR (z1d x) = z1d x:=rfl
theorem z4s (x:Rul):like zR (z1d x) = true:=rfl
theorem y4p {α:Type} {enc:α→List AV} {encs:List α→List AV} {sz:Nat} (h0:encs [] = []) (h1:∀ x l,encs (x :: l) = enc x++encs l) (hs:∀ x,(enc x).length = sz) :
  ∀ (l:List α) (k:Nat) (x:α),l[k]? = some x→el (encs l) (k * sz) sz = enc x
 | [],k,x,h=>by simp at h
 | y :: l,0,x,h=>by
  simp at h; subst h
  unfold el
  rw [h1,Nat.zero_mul,List.drop_zero,List.take_append_of_le_length (by rw [hs]; exact Nat.le_refl _),List.take_of_length_le (by rw [hs]; exact Nat.le_refl _)]
 | y :: l,k + 1,x,h=>by
  have e:(k + 1) * sz = (enc y).length + k * sz:=by rw [hs,Nat.succ_mul]; omega
  unfold el
  rw [h1,e,← List.drop_drop,List.drop_left']
  ·exact y4p h0 h1 hs l k x (by simpa using h)
  ·rfl
theorem y7x {l:List Tst} {k:Nat} {x:Tst} (h:l[k]? = some x):el (z0q l) (k * 5) 5 = z0m x :=
 y4p (enc:=z0m) (encs:=z0q) rfl (fun _ _=>rfl) z9i l k x h
theorem y7y {l:List Rul} {k:Nat} {x:Rul} (h:l[k]? = some x):el (z0c l) (k * 8) 8 = z1d x :=
 y4p (enc:=z1d) (encs:=z0c) rfl (fun _ _=>rfl) z8c l k x h
theorem y7f (l:List AV) (a b n:Nat):el (l.drop a) b n = el l (a + b) n:=by unfold el; rw [List.drop_drop]
theorem z6x {l:List Tst} {k:Nat} {x:Tst} (h:l[k]? = some x):el (List.drop (k * 5) (z0q l)) 0 5 = z0m x:=by rw [y7f]; exact y7x h
theorem z4u {l:List Rul} {k:Nat} {x:Rul} (h:l[k]? = some x):el (List.drop (k * 8) (z0c l)) 0 8 = z1d x:=by rw [y7f]; exact y7y h
theorem y5d {l:List Rul} {k:Nat} {x:Rul} (h:l[k]? = some x):el (List.drop 3 (List.drop (k * 8) (z0c l))) 0 5 = z0m x.t:=by
 have:=congrArg (List.drop 3) (y7y h)
 unfold el at *
 rw [List.drop_zero]
 rw [List.drop_take] at this
 rw [this,z1d,y4q]; rfl
theorem z03 {l:List AV} {n sz k:Nat} (h:l.length = n * sz) (hk:k < n):sz ≤ (l.drop (k * sz)).length:=by
 rw [List.length_drop,h]
 have:(k + 1) * sz ≤ n * sz:=Nat.mul_le_mul_right _ hk
 rw [Nat.succ_mul] at this
 omega

theorem z2f (n:Nat):∀ l m:List AV,noHL n (l++m) = (noHL n l && noHL n m)
 | [],m=>by simp [noHL]
 | a :: l,m=>by simp [noHL,z2f n l m,Bool.and_assoc]
theorem z88 (n:Nat):∀ l m:List AV,z0e n (l++m) = z0e n l++z0e n m
 | [],m=>by simp [z0e]
 | a :: l,m=>by simp [z0e,z88 n l m]
mutual
theorem z1k (n:Nat):∀ t:Tst,noHL n (z0m t) = true
 | .mk op attr side k of=>by simp [z0m,noHL,noH,z19 n of]
theorem z19 (n:Nat):∀ l:List Tst,noHL n (z0q l) = true
 | []=>rfl
 | t :: l=>by simp [z0q,z2f,z1k n t,z19 n l]
end
mutual
theorem z3q (n:Nat):∀ t:Tst,z0e n (z0m t) = z0m t
 | .mk op attr side k of=>by simp [z0m,z0e,scrub,Tok.scrub,z7v n of]
theorem z7v (n:Nat):∀ l:List Tst,z0e n (z0q l) = z0q l
 | []=>rfl
 | t :: l=>by simp [z0q,z88,z3q n t,z7v n l]
end
theorem z7c (n:Nat) (x:Rul):noHL n (z1d x) = true:=by simp [z1d,noHL,noH,z19]
theorem z0t (n:Nat):∀ l:List Rul,noHL n (z0c l) = true
 | []=>rfl
 | t :: l=>by simp [z0c,z2f,z7c n t,z0t n l]
theorem y8i (n:Nat) (x:Rul):z0e n (z1d x) = z1d x:=by simp [z1d,z0e,scrub,Tok.scrub,z7v]
theorem z1f (n:Nat):∀ l:List Rul,z0e n (z0c l) = z0c l
 | []=>rfl
 | t :: l=>by simp [z0c,z88,y8i n t,z1f n l]
theorem z5y {l:List Tst} {k:Nat} {x:Tst} (h:l[k]? = some x):z0o (z0m x) ≤ z0o (z0q l):=by
 induction l generalizing k with
 | nil=>simp at h
 | cons y l ih =>
  simp only [z0q,y7j]
  cases k with
  | zero=>simp at h; subst h; omega
  | succ k=>have:=ih (by simpa using h); omega

mutual
theorem z1a:∀ (s t:Tst),z0m s = z0m t→s = t
 | .mk a b c d l,.mk a' b' c' d' l',h=>by
  simp only [z0m,List.cons.injEq,AV.int.injEq,AV.vs.injEq,and_true,true_and] at h
  obtain ⟨h1,h2,h3,h4,h5,h6⟩:=h
  rw [h1,h2,h3,h4,z7g l l' h5]
theorem z7g:∀ (l m:List Tst),z0q l = z0q m→l = m
 | [],[],h=>rfl
 | [],t :: m,h=>by have:=congrArg List.length h; simp [z0q,z9i] at this; omega
 | t :: l,[],h=>by have:=congrArg List.length h; simp [z0q,z9i] at this
 | s :: l,t :: m,h=>by
  simp only [z0q] at h
  have:=List.append_inj h (by rw [z9i,z9i])
  rw [z1a s t this.1,z7g l m this.2]
end
theorem y5x {x y:Rul} (h:z1d x = z1d y):x = y:=by
 cases x with | mk n r w t=>cases y with | mk n' r' w' t' =>
 cases t with | mk a b c d l=>cases t' with | mk a' b' c' d' l' =>
 simp only [z1d,Tst.op,Tst.attr,Tst.side,Tst.n,Tst.of,List.cons.injEq,AV.int.injEq,AV.str.injEq,AV.vs.injEq,and_true,true_and] at h
 obtain ⟨h1,h2,h3,h4,h5,h6,h7,h8,h9⟩:=h
 rw [h1,h2,h3,h4,h5,h6,h7,z7g _ _ h8]
theorem z0u:∀ (l m:List Rul),z0c l = z0c m→l = m
 | [],[],h=>rfl
 | [],t :: m,h=>by have:=congrArg List.length h; simp [z0c,z8c] at this; omega
 | t :: l,[],h=>by have:=congrArg List.length h; simp [z0c,z8c] at this
 | s :: l,t :: m,h=>by
  simp only [z0c] at h
  have:=List.append_inj h (by rw [z8c,z8c])
  rw [y5x this.1,z0u l m this.2]

open Classical in
noncomputable def z0g {α β:Type} (enc:α→List AV) (f:α→β) (d:β) (l:List AV):β:=if h:∃ a,l = enc a then f h.choose else d
theorem z0j {α β:Type} {enc:α→List AV} (hinj:∀ a b,enc a = enc b→a = b) (f:α→β) (d:β) (a:α):z0g enc f d (enc a) = f a:=by
 have h:∃ b,enc a = enc b:=⟨a,rfl⟩
 unfold z0g
 rw [dif_pos h,← hinj _ _ h.choose_spec]

mutual
def wfT:Tst→Prop
 | .mk op attr side n of=>0 ≤ op∧op ≤ 255∧0 ≤ attr∧attr ≤ 255∧0 ≤ side∧side ≤ 255∧-9223372036854775808 ≤ n∧n ≤ 9223372036854775807∧of.length ≤ 9223372036854775807∧z6p of
def z6p:List Tst→Prop
 | []=>True
 | t :: l=>wfT t∧z6p l
end
theorem z6u:∀ {l:List Tst} {k:Nat} {x:Tst},z6p l→l[k]? = some x→wfT x
 | [],k,x,_,h=>by simp at h
 | y :: l,0,x,hw,h=>by simp at h; subst h; exact hw.1
 | y :: l,k + 1,x,hw,h=>z6u hw.2 (by simpa using h)
theorem x27 {l:List Tst} {x:Tst} (hw:z6p l) (h:x ∈ l):wfT x:=by
 obtain ⟨k,hk⟩:=List.getElem?_of_mem h
 exact z6u hw hk

def wfR (x:Rul):Prop:=wfT x.t∧x.name.length ≤ 9223372036854775807∧-9223372036854775808 ≤ x.rank∧x.rank ≤ 9223372036854775807∧-9223372036854775808 ≤ x.weight∧x.weight ≤ 9223372036854775807
def z1h (l:List Rul):Prop:=l.length ≤ 9223372036854775807∧∀ x ∈ l,wfR x

mutual
def z5i:Tst→Int→Int
 | .mk _ _ _ _ of,most=>z7x of most 1
def z7x:List Tst→Int→Int→Int
 | [],most,n=>n
 | t :: l,most,n=>if n ≤ most then z7x l most (n + z5i t (most - n)) else n
end
mutual
theorem y5g:∀ (t:Tst) (m:Int),0 ≤ m→1 ≤ z5i t m∧z5i t m ≤ m + 1
 | .mk _ _ _ _ of,m,hm=>by
  simp only [z5i]
  have:=y8j of m 1 (by omega) (by omega) hm
  omega
theorem y8j:∀ (l:List Tst) (m n:Int),1 ≤ n→n ≤ m + 1→0 ≤ m→n ≤ z7x l m n∧z7x l m n ≤ m + 1
 | [],m,n,h1,h2,hm=>by simp only [z7x]; omega
 | t :: l,m,n,h1,h2,hm=>by
  simp only [z7x]
  split
  ·have h3:=y5g t (m - n) (by omega)
   have:=y8j l m (n + z5i t (m - n)) (by omega) (by omega) hm
   omega
  ·omega
end
end Go.Ev
set_option maxRecDepth 100000
set_option linter.unusedVariables false
namespace Go.Proofs
open Go Go.Ev
noncomputable def Tryz.X0:WCx:=Tryz.B.wcx []
def R113:Spc:=fun args=>match args with
 | [.int .i64 n,.int .i64 a,.int .i64 b]=>some (True,rB (decide (a ≤ n) && decide (n ≤ b)))
 | _=>none
theorem w68 (n a b:Int) (Q:CR→Prop):wpF Tryz.X0 113 [I n,I a,I b] Q =
 (cIf (decide (n ≥ a)) (Q (CR.ret (Bo (decide (n ≤ b))))) (Q (CR.ret (Bo false)))):=by kernel_rfl
theorem v30 (n a c d:Int) (x y z:Bool) (Q:CR→Prop):wpF Tryz.X0 30 [.agg [I n,I a,Bo x,Bo y,Bo z,I c,I d]] Q =
 (cIf (decide (n < (1:Int))) (Q (CR.ret (I 1))) (cIf (decide (n > (5:Int))) (Q (CR.ret (I 1))) (cIf (decide (a < (0:Int))) (Q (CR.ret (I 1))) (cIf (decide (a > (2:Int))) (Q (CR.ret (I 1))) (cIf (decide (c < (0:Int))) (Q (CR.ret (I 1))) (cIf (decide (c > (100001:Int))) (Q (CR.ret (I 1))) (cIf (decide (d < (0:Int))) (Q (CR.ret (I 1))) (cIf (decide (d > (200:Int))) (Q (CR.ret (I 1))) (Q (CR.ret (I 0))))))))))):=by kernel_rfl
theorem v97 (c:Int) (Q:CR→Prop):wpF Tryz.X0 97 [.int .i32 c] Q =
 (cIf (decide (c ≥ (97:Int))) (cIf (decide (c ≤ (122:Int))) (Q (CR.ret (Bo true))) (cIf (decide (c ≥ (48:Int))) (cIf (decide (c ≤ (57:Int))) (Q (CR.ret (Bo true))) (Q (CR.ret (Bo (c == (45:Int)))))) (Q (CR.ret (Bo (c == (45:Int))))))) (cIf (decide (c ≥ (48:Int))) (cIf (decide (c ≤ (57:Int))) (Q (CR.ret (Bo true))) (Q (CR.ret (Bo (c == (45:Int)))))) (Q (CR.ret (Bo (c == (45:Int))))))):=by kernel_rfl
theorem w7b (c:Int) (Q:CR→Prop):wpF Tryz.X0 102 [U c] Q =
 (cIf (decide (c ≥ (97:Int))) (cIf (decide (c ≤ (122:Int))) (Q (CR.ret (Bo true))) (cIf (decide (c ≥ (48:Int))) (cIf (decide (c ≤ (57:Int))) (Q (CR.ret (Bo true))) (Q (CR.ret (Bo (c == (45:Int)))))) (Q (CR.ret (Bo (c == (45:Int))))))) (cIf (decide (c ≥ (48:Int))) (cIf (decide (c ≤ (57:Int))) (Q (CR.ret (Bo true))) (Q (CR.ret (Bo (c == (45:Int)))))) (Q (CR.ret (Bo (c == (45:Int))))))):=by kernel_rfl
theorem w69 (c:Int) (Q:CR→Prop):wpF Tryz.X0 112 [U c] Q =
 (cIf (c == (1:Int)) (cIf (c == (1:Int)) (Q (CR.ret (I 1))) (cIf (c == (3:Int)) (cIf (c == (3:Int)) (Q (CR.ret (I 2))) (cIf (c == (6:Int)) (cIf (c == (6:Int)) (Q (CR.ret (I 3))) (Q (CR.ret (I 0)))) (cIf (c == (7:Int)) (Q (CR.ret (I 3))) (Q (CR.ret (I 0)))))) (cIf (c == (4:Int)) (cIf (c == (4:Int)) (Q (CR.ret (I 2))) (cIf (c == (6:Int)) (cIf (c == (6:Int)) (Q (CR.ret (I 3))) (Q (CR.ret (I 0)))) (cIf (c == (7:Int)) (Q (CR.ret (I 3))) (Q (CR.ret (I 0)))))) (cIf (c == (5:Int)) (Q (CR.ret (I 2))) (cIf (c == (6:Int)) (cIf (c == (6:Int)) (Q (CR.ret (I 3))) (Q (CR.ret (I 0)))) (cIf (c == (7:Int)) (Q (CR.ret (I 3))) (Q (CR.ret (I 0))))))))) (cIf (c == (2:Int)) (Q (CR.ret (I 1))) (cIf (c == (3:Int)) (cIf (c == (3:Int)) (Q (CR.ret (I 2))) (cIf (c == (6:Int)) (cIf (c == (6:Int)) (Q (CR.ret (I 3))) (Q (CR.ret (I 0)))) (cIf (c == (7:Int)) (Q (CR.ret (I 3))) (Q (CR.ret (I 0)))))) (cIf (c == (4:Int)) (cIf (c == (4:Int)) (Q (CR.ret (I 2))) (cIf (c == (6:Int)) (cIf (c == (6:Int)) (Q (CR.ret (I 3))) (Q (CR.ret (I 0)))) (cIf (c == (7:Int)) (Q (CR.ret (I 3))) (Q (CR.ret (I 0)))))) (cIf (c == (5:Int)) (Q (CR.ret (I 2))) (cIf (c == (6:Int)) (cIf (c == (6:Int)) (Q (CR.ret (I 3))) (Q (CR.ret (I 0)))) (cIf (c == (7:Int)) (Q (CR.ret (I 3))) (Q (CR.ret (I 0)))))))))):=by kernel_rfl
theorem w66 (c:Int) (Q:CR→Prop):wpF Tryz.X0 116 [U c] Q =
 (cIf (decide (c ≥ (3:Int))) (Q (CR.ret (Bo (decide (c ≤ (5:Int)))))) (Q (CR.ret (Bo false)))):=by kernel_rfl
theorem v152 (c:Int) (Q:CR→Prop):wpF Tryz.X0 152 [U c] Q =
 (cIf (c == (1:Int)) (Q (CR.ret (Bo true))) (Q (CR.ret (Bo (c == (2:Int)))))):=by kernel_rfl
theorem w6x (c:Int) (Q:CR→Prop):wpF Tryz.X0 153 [U c] Q =
 (cIf (c == (6:Int)) (Q (CR.ret (Bo true))) (Q (CR.ret (Bo (c == (7:Int)))))):=by kernel_rfl
end Go.Proofs
set_option maxRecDepth 100000
set_option linter.unusedVariables false
namespace Go.Ev
theorem z2r {a b:Bool} (h:a = true ↔ b = true):rB a = rB b:=by
 have:a = b:=Bool.eq_iff_iff.2 h
 rw [this]
theorem x14 {a b:Int} (h:a = b):rI a = rI b:=by rw [h]
end Go.Ev
namespace Go.Proofs
open Go Go.Ev

theorem x3j:Ct Tryz.B.c0 113 R113:=Ct.of_wp (lm:=[]) Tryz.bok (Cts.nil _) ⟨_,_,Tryz.func113,rfl⟩ fun args D r hR hD=>by
 unfold R113 at hR
 split at hR <;> cases hR
 refine ⟨rfl,(w68 _ _ _ _).mpr ?_⟩
 refine z0h (fun h=>?_) (fun h=>?_)
 all_goals (apply z2r; simp at *; omega)

def okP (cl vi cr le:Int):Bool:=decide (1 ≤ cl) && decide (cl ≤ 5) && decide (0 ≤ vi) && decide (vi ≤ 2) && decide (0 ≤ cr) && decide (cr ≤ 100001) && decide (0 ≤ le) && decide (le ≤ 200)
def R30:Spc:=fun args=>match args with
 | [.agg [.int .i64 n,.int .i64 a,.bool _,.bool _,.bool _,.int .i64 c,.int .i64 d]]=>some (True,rI (if okP n a c d then 0 else 1))
 | _=>none
theorem w1u:Ct Tryz.B.c0 30 R30:=Ct.of_wp (lm:=[]) Tryz.bok (Cts.nil _) ⟨_,_,Tryz.func30,rfl⟩ fun args D r hR hD=>by
 unfold R30 at hR
 split at hR <;> cases hR
 refine ⟨rfl,(v30 _ _ _ _ _ _ _ _).mpr ?_⟩
 repeat' (refine z0h (fun h=>?_) (fun h=>?_))
 all_goals (apply x14; simp [okP] at *; omega)
def z3o (c:Int):Bool:=decide (97 ≤ c) && decide (c ≤ 122) || decide (48 ≤ c) && decide (c ≤ 57) || c == 45
def R97:Spc:=fun args=>match args with
 | [.int .i32 c]=>some (True,rB (z3o c))
 | _=>none
theorem w71:Ct Tryz.B.c0 97 R97:=Ct.of_wp (lm:=[]) Tryz.bok (Cts.nil _) ⟨_,_,Tryz.func97,rfl⟩ fun args D r hR hD=>by
 unfold R97 at hR
 split at hR <;> cases hR
 refine ⟨rfl,(v97 _ _).mpr ?_⟩
 repeat' (refine z0h (fun h=>?_) (fun h=>?_))
 all_goals (apply z2r; simp [z3o] at *; omega)
def R102:Spc:=fun args=>match args with
 | [.int .u8 c]=>some (True,rB (z3o c))
 | _=>none
theorem x72:Ct Tryz.B.c0 102 R102:=Ct.of_wp (lm:=[]) Tryz.bok (Cts.nil _) ⟨_,_,Tryz.func102,rfl⟩ fun args D r hR hD=>by
 unfold R102 at hR
 split at hR <;> cases hR
 refine ⟨rfl,(w7b _ _).mpr ?_⟩
 repeat' (refine z0h (fun h=>?_) (fun h=>?_))
 all_goals (apply z2r; simp [z3o] at *; omega)
def z3i (c:Int):Int:=if c = 1 ∨ c = 2 then 1 else if c = 3 ∨ c = 4 ∨ c = 5 then 2 else if c = 6 ∨ c = 7 then 3 else 0
def R112:Spc:=fun args=>match args with
 | [.int .u8 c]=>some (True,rI (z3i c))
 | _=>none
theorem x71:Ct Tryz.B.c0 112 R112:=Ct.of_wp (lm:=[]) Tryz.bok (Cts.nil _) ⟨_,_,Tryz.func112,rfl⟩ fun args D r hR hD=>by
 unfold R112 at hR
 split at hR <;> cases hR
 refine ⟨rfl,(w69 _ _).mpr ?_⟩
 repeat' (refine z0h (fun h=>?_) (fun h=>?_))
 all_goals (apply x14; unfold z3i; simp only [beq_iff_eq,beq_eq_false_iff_ne,ne_eq] at *; first | omega | simp_all)
def R116:Spc:=fun args=>match args with
 | [.int .u8 c]=>some (True,rB (decide (3 ≤ c) && decide (c ≤ 5)))
 | _=>none
theorem w4k:Ct Tryz.B.c0 116 R116:=Ct.of_wp (lm:=[]) Tryz.bok (Cts.nil _) ⟨_,_,Tryz.func116,rfl⟩ fun args D r hR hD=>by
 unfold R116 at hR
 split at hR <;> cases hR
 refine ⟨rfl,(w66 _ _).mpr ?_⟩
 repeat' (refine z0h (fun h=>?_) (fun h=>?_))
 all_goals (apply z2r; simp at *; omega)
def R152:Spc:=fun args=>match args with
 | [.int .u8 c]=>some (True,rB (decide (c = 1) || decide (c = 2)))
 | _=>none
theorem w4d:Ct Tryz.B.c0 152 R152:=Ct.of_wp (lm:=[]) Tryz.bok (Cts.nil _) ⟨_,_,Tryz.func152,rfl⟩ fun args D r hR hD=>by
 unfold R152 at hR
 split at hR <;> cases hR
 refine ⟨rfl,(v152 _ _).mpr ?_⟩
 repeat' (refine z0h (fun h=>?_) (fun h=>?_))
 all_goals (apply z2r; simp at *; omega)
def R153:Spc:=fun args=>match args with
 | [.int .u8 c]=>some (True,rB (decide (c = 6) || decide (c = 7)))
 | _=>none
theorem w4c:Ct Tryz.B.c0 153 R153:=Ct.of_wp (lm:=[]) Tryz.bok (Cts.nil _) ⟨_,_,Tryz.func153,rfl⟩ fun args D r hR hD=>by
 unfold R153 at hR
 split at hR <;> cases hR
 refine ⟨rfl,(w6x _ _).mpr ?_⟩
 repeat' (refine z0h (fun h=>?_) (fun h=>?_))
 all_goals (apply z2r; simp at *; omega)
end Go.Proofs
set_option maxRecDepth 100000
set_option linter.unusedVariables false
namespace Go.Proofs
open Go Go.Ev
noncomputable abbrev PP:Program:=Tryz.prog
noncomputable def R65:Spc:=fun args=>match args with
 | [.agg l,.int .i64 m]=>some (∃ t,l = z0m t∧wfT t∧0 ≤ m∧m ≤ 1000,rI (z0g z0m (fun t=>z5i t m) 0 l))
 | _=>none
def w1g:List (Nat × List Nat):=[(3,[1,2,5,6]),(7,[5])]
noncomputable def Tryz.X65 (n:Nat):WCx:=Tryz.B.wcx [(65,R65.below n)] w1g
theorem v65 (m:Nat) (op attr side n most:Int) (l:List AV) (len:Nat) (Q:CR→Prop):wpF (Tryz.X65 m) 65 [.agg [U op,U attr,U side,I n,.vs l len .none],I most] Q =
 (z0l (Tryz.X65 m) (cd (Tryz.X65 m).P 65 [1,1,0,1,0,0]) ([X,I most,AV.ptr 0 0,X,X,I 1,I 0]++List.replicate 26 X) (St.mk [some (HB.cells [U op,U attr,U side,I n,AV.vs l len Tok.none] 71)] [] []) (z0d 0 (z0i (Tryz.X65 m) (cd (Tryz.X65 m).P 65 [1,1,1]) (z0f (Tryz.X65 m) 65 Q)))):=by kernel_rfl
theorem w0f (m:Nat) (op attr side k most n:Int) (l:List AV) (len i:Nat) (Q:CR→Prop):wpC (Tryz.X65 m) (cd PP 65 [1,1,0,1,0,0]) ([X,I most,.ptr 0 0,X,X,I n,I i]++List.replicate 26 X) ⟨[some (.cells [U op,U attr,U side,I k,.vs l len .none] 71)],[],[]⟩ (z0r (Tryz.X65 m) (cd PP 65 [1,1,0,1,0,0]) (z0d 0 (z0i (Tryz.X65 m) (cd PP 65 [1,1,1]) (z0f (Tryz.X65 m) 65 Q)))) =
 (cIf (decide ((↑i:Int) < (↑len:Int))) (cIf (decide (n ≤ most)) (cIf (decide (i < len)) (cIf (decide (len * 5 = l.length)) (cIf (decide (5 ≤ (List.drop (i * 5) l).length)) (cIf (like zT (el (List.drop (i * 5) l) 0 5)) (((∃ (t:Tst),(elT (el (List.drop (i * 5) l) 0 5)) = z0m t∧wfT t∧(0:Int) ≤ IntKind.i64.wrap (most - n)∧IntKind.i64.wrap (most - n) ≤ (1000:Int))∧z0o ([]++[AV.agg (elT (el (List.drop (i * 5) l) 0 5)),I (IntKind.i64.wrap (most - n))]++[]) < m)∧z0l (Tryz.X65 m) (cd PP 65 [1,1,0,1,0,0]) ([X,I most,AV.ptr 0 0,X,X,AV.int IntKind.i64 (IntKind.i64.wrap (n + z0g z0m (fun (t:Tst)=>z5i t (IntKind.i64.wrap (most - n))) (0:Int) (elT (el (List.drop (i * 5) l) 0 5)))),I (IntKind.i64.wrap ((↑i:Int) + (1:Int)))]++List.replicate 26 X) (St.mk [some (HB.cells [U op,U attr,U side,I k,AV.vs l len Tok.none] 71)] [] []) (z0d 0 (z0i (Tryz.X65 m) (cd PP 65 [1,1,1]) (z0f (Tryz.X65 m) 65 Q)))) False) False) False) False) (Q (CR.ret (I n)))) (Q (CR.ret (I n)))):=by kernel_rfl
end Go.Proofs
set_option maxRecDepth 100000
set_option linter.unusedVariables false
namespace Go.Ev
theorem z09 {x:Int} (h1:-9223372036854775808 ≤ x) (h2:x ≤ 9223372036854775807):IntKind.i64.wrap x = x:=by
 simp [IntKind.wrap,IntKind.min,IntKind.max,IntKind.signed,IntKind.bits]
 omega
theorem z1p {α:Type} {l:List α} {i:Nat} (h:i < l.length):∃ x,l[i]? = some x∧l.drop i = x :: l.drop (i + 1) :=
 ⟨l[i],List.getElem?_eq_getElem h,List.drop_eq_getElem_cons h⟩
end Go.Ev
namespace Go.Proofs
open Go Go.Ev

theorem x2r {m:Nat} (hc:Cts Tryz.B [(65,R65.below m)]) {op attr side k most:Int} {of:List Tst} (hm0:0 ≤ most) (hm1:most ≤ 1000) (hlen:of.length ≤ 9223372036854775807) (hwf:z6p of) (hsz:z0o (z0q of) + 3 ≤ m) (Q:CR→Prop) :
  ∀ (d i:Nat) (n:Int),of.length - i = d→i ≤ of.length→1 ≤ n→n ≤ most + 1→Q (rI (z7x (of.drop i) most n)) →
   z0l (Tryz.X65 m) (cd PP 65 [1,1,0,1,0,0]) ([X,I most,.ptr 0 0,X,X,I n,I i]++List.replicate 26 X) ⟨[some (.cells [U op,U attr,U side,I k,.vs (z0q of) of.length .none] 71)],[],[]⟩ (z0d 0 (z0i (Tryz.X65 m) (cd PP 65 [1,1,1]) (z0f (Tryz.X65 m) 65 Q))):=by
 intro d
 induction d with
 | zero =>
  intro i n hd hi hn1 hn2 hQ
  have hi':i = of.length:=by omega
  subst hi'
  refine z1b Tryz.bok hc ?_
  refine (w0f m op attr side k most n _ _ _ Q).mpr ?_
  refine z0p (by simp) ?_
  simpa [z7x] using hQ
 | succ d ih =>
  intro i n hd hi hn1 hn2 hQ
  have hlt:i < of.length:=by omega
  obtain ⟨x,hx,hdr⟩:=z1p hlt
  rw [hdr] at hQ
  refine z1b Tryz.bok hc ?_
  refine (w0f m op attr side k most n _ _ _ Q).mpr ?_
  refine z0b (by simp; omega) ?_
  refine z0h (fun h2=>?_) (fun h2=>?_)
  ·have h2:n ≤ most:=by simpa using h2
   have hb:=y5g x (most - n) (by omega)
   refine z0b (by simpa using hlt) (z0b (by simp [z1n]) (z0b (by have:=z03 (z1n of) hlt; simpa using this) ?_))
   rw [z6x hx,z6m,z09 (x:=most - n) (by omega) (by omega)]
   have hs:=z5y hx
   refine z0b (z2w x) ⟨⟨⟨x,rfl,z6u hwf hx,by omega,by omega⟩,?_⟩,?_⟩
   ·simp only [List.nil_append,List.append_nil,z0o,z2q]
    omega
   ·rw [z0j (fun _ _=>z1a _ _),z09 (x:=(i:Int) + 1) (by omega) (by omega),z09 (by omega) (by omega)]
    refine ih (i + 1) (n + z5i x (most - n)) (by omega) (by omega) (by omega) (by omega) ?_
    simpa only [z7x,if_pos h2] using hQ
  ·have h2:¬ n ≤ most:=by simpa using h2
   simpa only [z7x,if_neg h2] using hQ

theorem x6s:Ct Tryz.B.c0 65 R65:=Ct.of_rec (lm:=w1g) Tryz.bok (Cts.nil _) ⟨_,_,Tryz.func65,rfl⟩ fun m args D r hc hR hD hm=>by
 unfold R65 at hR
 split at hR <;> cases hR
 rename_i most
 obtain ⟨⟨op,attr,side,k,of⟩,rfl,hw,h0,h1⟩:=hD
 simp only [wfT] at hw
 refine ⟨by simp [noHL,noH,z1k],?_⟩
 rw [show z0e 0 [AV.agg (z0m (.mk op attr side k of)),I most] = [AV.agg (z0m (.mk op attr side k of)),I most] by simp [z0e,scrub,z3q]]
 refine (v65 m op attr side k _ _ _ _).mpr ?_
 refine x2r hc h0 h1 (by omega) hw.2.2.2.2.2.2.2.2.2 (by simp only [z0o,z2q,z0m] at hm; omega) _ _ 0 1 rfl (Nat.zero_le _) (by omega) (by omega) ?_
 rw [z0j (fun _ _=>z1a _ _)]
 rfl
end Go.Proofs
set_option maxRecDepth 100000
set_option linter.unusedVariables false
namespace Go.Ev
def y7e:List Rul→Int→Int→Int
 | [],m,n=>n
 | x :: l,m,n=>if n ≤ m then y7e l m (n + z5i x.t m) else n
def y5v (m:Int) (l:List Rul):Bool:=decide (l.length ≤ 25) && decide (y7e l m 0 ≤ m)
mutual
def dpT:Tst→Int→Int
 | .mk _ _ _ _ of,m=>dpL of m 0 + 1
def dpL:List Tst→Int→Int→Int
 | [],m,d=>d
 | t :: l,m,d=>if d < m then dpL l m (if dpT t (m - 1) > d then dpT t (m - 1) else d) else d
end
def szR (t:Tst):Int × Int:=if z5i t 24 > 24 then (25,7) else if dpT t 6 > 6 then (25,7) else (z5i t 24,dpT t 6)
end Go.Ev
namespace Go.Proofs
open Go Go.Ev
def z1s (s:List UInt8):Bool:=decide (1 ≤ s.length) && decide (s.length ≤ 24) && decide (97 ≤ ((s.getD 0 0).toNat:Int)) && decide (((s.getD 0 0).toNat:Int) ≤ 122) && s.all fun c=>z3o (c.toNat:Int)
def y3h (a n:Int):Bool:=if a = 1 then decide (1 ≤ n) && decide (n ≤ 5) else if a = 2 then decide (0 ≤ n) && decide (n ≤ 2) else n == 1
noncomputable def R24:Spc:=fun args=>match args with
 | [.agg [.vs l len _],.int .i64 m]=>some (∃ rs,l = z0c rs∧len = rs.length∧z1h rs∧0 ≤ m∧m ≤ 1000,rB (z0g z0c (y5v m) false l))
 | _=>none
noncomputable def Tryz.X24:WCx:=Tryz.B.wcx [(65,R65)] [(5,[1,2,5,6]),(9,[1,5])]
noncomputable def R192:Spc:=fun args=>match args with
 | [.agg l,.int .i64 m]=>some (∃ t,l = z0m t∧wfT t∧0 ≤ m∧m ≤ 1000,rI (z0g z0m (fun t=>dpT t m) 0 l))
 | _=>none
noncomputable def Tryz.X192 (n:Nat):WCx:=Tryz.B.wcx [(192,R192.below n)] [(3,[1,2,5,6]),(7,[5])]
noncomputable def R149:Spc:=fun args=>match args with
 | [.agg l]=>some (∃ t,l = z0m t∧wfT t,.ret (.tup [I (z0g z0m szR (0,0) l).1,I (z0g z0m szR (0,0) l).2]))
 | _=>none
noncomputable def Tryz.X149:WCx:=Tryz.B.wcx [(65,R65),(192,R192)]
noncomputable def R109:Spc:=fun args=>match args with
 | [.agg l]=>some (∃ t,l = z0m t∧wfT t,rB (z0g z0m (fun t=>decide ((szR t).1 ≤ 24)) false l))
 | _=>none
noncomputable def Tryz.X109:WCx:=Tryz.B.wcx [(149,R149)]
noncomputable def Tryz.X103:WCx:=Tryz.B.wcx [(102,R102)] [(4,[0,3]),(9,[])]
noncomputable def Tryz.X154:WCx:=Tryz.B.wcx [(113,R113)]
theorem v24 (most:Int) (l:List AV) (len:Nat) (tk:Tok) (Q:CR→Prop):wpF Tryz.X24 24 [.agg [.vs l len tk],I most] Q =
 (cIf (decide ((↑len:Int) > (25:Int))) (Q (CR.ret (Bo false))) (z0l Tryz.X24 (cd Tryz.X24.P 24 [1,1,1,0,1,0,0]) ([X,I most,AV.ptr 0 0,X,X,I 0,I 0]++List.replicate 31 X) (St.mk [some (HB.cells [AV.vs l len tk] 25)] [] []) (z0d 0 (z0i Tryz.X24 (cd Tryz.X24.P 24 [1,1,1,1]) (z0f Tryz.X24 24 Q))))):=by kernel_rfl
theorem w0i (most n:Int) (l:List AV) (len i:Nat) (tk:Tok) (Q:CR→Prop):wpC Tryz.X24 (cd PP 24 [1,1,1,0,1,0,0]) ([X,I most,.ptr 0 0,X,X,I n,I i]++List.replicate 31 X) ⟨[some (.cells [.vs l len tk] 25)],[],[]⟩ (z0r Tryz.X24 (cd PP 24 [1,1,1,0,1,0,0]) (z0d 0 (z0i Tryz.X24 (cd PP 24 [1,1,1,1]) (z0f Tryz.X24 24 Q)))) =
 (cIf (decide ((↑i:Int) < (↑len:Int))) (cIf (decide (n ≤ most)) (cIf (decide (i < len)) (cIf (decide (len * 8 = l.length)) (cIf (decide (5 ≤ (List.drop 3 (List.drop (i * 8) l)).length)) (cIf (like zT (el (List.drop 3 (List.drop (i * 8) l)) 0 5)) ((∃ (t:Tst),(elT (el (List.drop 3 (List.drop (i * 8) l)) 0 5)) = z0m t∧wfT t∧(0:Int) ≤ most∧most ≤ (1000:Int))∧z0l Tryz.X24 (cd PP 24 [1,1,1,0,1,0,0]) ([X,I most,AV.ptr 0 0,X,X,AV.int IntKind.i64 (IntKind.i64.wrap (n + z0g z0m (fun (t:Tst)=>z5i t most) (0:Int) (elT (el (List.drop 3 (List.drop (i * 8) l)) 0 5)))),I (IntKind.i64.wrap ((↑i:Int) + (1:Int)))]++List.replicate 31 X) (St.mk [some (HB.cells [AV.vs l len tk] 25)] [] []) (z0d 0 (z0i Tryz.X24 (cd PP 24 [1,1,1,1]) (z0f Tryz.X24 24 Q)))) False) False) False) False) (Q (CR.ret (Bo (decide (n ≤ most)))))) (Q (CR.ret (Bo (decide (n ≤ most)))))):=by kernel_rfl
theorem w6q (m:Nat) (op attr side n most:Int) (l:List AV) (len:Nat) (Q:CR→Prop):wpF (Tryz.X192 m) 192 [.agg [U op,U attr,U side,I n,.vs l len .none],I most] Q =
 (z0l (Tryz.X192 m) (cd (Tryz.X192 m).P 192 [1,1,0,1,0,0]) ([X,I most,AV.ptr 0 0,X,X,I 0,I 0]++List.replicate 26 X) (St.mk [some (HB.cells [U op,U attr,U side,I n,AV.vs l len Tok.none] 71)] [] []) (z0d 0 (z0i (Tryz.X192 m) (cd (Tryz.X192 m).P 192 [1,1,1]) (z0f (Tryz.X192 m) 192 Q)))):=by kernel_rfl
theorem x7j (m:Nat) (op attr side k most n:Int) (l:List AV) (len i:Nat) (Q:CR→Prop):wpC (Tryz.X192 m) (cd PP 192 [1,1,0,1,0,0]) ([X,I most,.ptr 0 0,X,X,I n,I i]++List.replicate 26 X) ⟨[some (.cells [U op,U attr,U side,I k,.vs l len .none] 71)],[],[]⟩ (z0r (Tryz.X192 m) (cd PP 192 [1,1,0,1,0,0]) (z0d 0 (z0i (Tryz.X192 m) (cd PP 192 [1,1,1]) (z0f (Tryz.X192 m) 192 Q)))) =
 (cIf (decide ((↑i:Int) < (↑len:Int))) (cIf (decide (n < most)) (cIf (decide (i < len)) (cIf (decide (len * 5 = l.length)) (cIf (decide (5 ≤ (List.drop (i * 5) l).length)) (cIf (like zT (el (List.drop (i * 5) l) 0 5)) (((∃ (t:Tst),(elT (el (List.drop (i * 5) l) 0 5)) = z0m t∧wfT t∧(0:Int) ≤ IntKind.i64.wrap (most - (1:Int))∧IntKind.i64.wrap (most - (1:Int)) ≤ (1000:Int))∧z0o ([]++[AV.agg (elT (el (List.drop (i * 5) l) 0 5)),I (IntKind.i64.wrap (most - (1:Int)))]++[]) < m)∧z0l (Tryz.X192 m) (cd PP 192 [1,1,0,1,0,0]) ([X,I most,AV.ptr 0 0,X,X,AV.int IntKind.i64 (if z0g z0m (fun (t:Tst)=>dpT t (IntKind.i64.wrap (most - (1:Int)))) (0:Int) (elT (el (List.drop (i * 5) l) 0 5)) > n then z0g z0m (fun (t:Tst)=>dpT t (IntKind.i64.wrap (most - (1:Int)))) (0:Int) (elT (el (List.drop (i * 5) l) 0 5)) else n),I (IntKind.i64.wrap ((↑i:Int) + (1:Int)))]++List.replicate 26 X) (St.mk [some (HB.cells [U op,U attr,U side,I k,AV.vs l len Tok.none] 71)] [] []) (z0d 0 (z0i (Tryz.X192 m) (cd PP 192 [1,1,1]) (z0f (Tryz.X192 m) 192 Q)))) False) False) False) False) (Q (CR.ret (I (IntKind.i64.wrap (n + (1:Int))))))) (Q (CR.ret (I (IntKind.i64.wrap (n + (1:Int))))))):=by kernel_rfl
theorem w6y (op attr side n:Int) (l:List AV) (len:Nat) (Q:CR→Prop):wpF Tryz.X149 149 [.agg [U op,U attr,U side,I n,.vs l len .none]] Q =
 ((∃ (t:Tst),[U op,U attr,U side,I n,AV.vs l len Tok.none] = z0m t∧wfT t∧(0:Int) ≤ (24:Int)∧(24:Int) ≤ (1000:Int))∧cIf (decide (z0g z0m (fun (t:Tst)=>z5i t (24:Int)) (0:Int) [U op,U attr,U side,I n,AV.vs l len Tok.none] > (24:Int))) (Q (CR.ret (AV.tup [I 25,I 7]))) ((∃ (t:Tst),[U op,U attr,U side,I n,AV.vs l len Tok.none] = z0m t∧wfT t∧(0:Int) ≤ (6:Int)∧(6:Int) ≤ (1000:Int))∧cIf (decide (z0g z0m (fun (t:Tst)=>dpT t (6:Int)) (0:Int) [U op,U attr,U side,I n,AV.vs l len Tok.none] > (6:Int))) (Q (CR.ret (AV.tup [I 25,I 7]))) (Q (CR.ret (AV.tup [AV.int IntKind.i64 (z0g z0m (fun (t:Tst)=>z5i t (24:Int)) (0:Int) [U op,U attr,U side,I n,AV.vs l len Tok.none]),AV.int IntKind.i64 (z0g z0m (fun (t:Tst)=>dpT t (6:Int)) (0:Int) [U op,U attr,U side,I n,AV.vs l len Tok.none])]))))):=by kernel_rfl
theorem v109 (op attr side n:Int) (l:List AV) (len:Nat) (Q:CR→Prop):wpF Tryz.X109 109 [.agg [U op,U attr,U side,I n,.vs l len .none]] Q =
 ((∃ (t:Tst),[U op,U attr,U side,I n,AV.vs l len Tok.none] = z0m t∧wfT t)∧Q (CR.ret (Bo (decide ((z0g z0m szR ((0:Int),(0:Int)) [U op,U attr,U side,I n,AV.vs l len Tok.none]).fst ≤ (24:Int)))))):=by kernel_rfl
theorem w7a (s:List UInt8) (Q:CR→Prop):wpF Tryz.X103 103 [.str s] Q =
 (cIf (decide ((↑s.length:Int) < (1:Int))) (Q (CR.ret (Bo false))) (cIf (decide ((↑s.length:Int) > (24:Int))) (Q (CR.ret (Bo false))) (cIf (decide (0 < s.length)) (cIf (decide ((↑(s.getD 0 (0:UInt8)).toNat:Int) < (97:Int))) (Q (CR.ret (Bo false))) (cIf (decide (0 < s.length)) (cIf (decide ((↑(s.getD 0 (0:UInt8)).toNat:Int) > (122:Int))) (Q (CR.ret (Bo false))) (z0l Tryz.X103 (cd Tryz.X103.P 103 [1,1,0,1,0,0]) ([AV.str s,X,X,I 0]++List.replicate 31 X) (St.mk [] [] []) (z0d 0 (z0i Tryz.X103 (cd Tryz.X103.P 103 [1,1,1]) (z0f Tryz.X103 103 Q))))) False)) False))):=by kernel_rfl
theorem x7p (s:List UInt8) (i:Nat) (Q:CR→Prop):wpC Tryz.X103 (cd PP 103 [1,1,0,1,0,0]) ([.str s,X,X,I i]++List.replicate 31 X) ⟨[],[],[]⟩ (z0r Tryz.X103 (cd PP 103 [1,1,0,1,0,0]) (z0d 0 (z0i Tryz.X103 (cd PP 103 [1,1,1]) (z0f Tryz.X103 103 Q)))) =
 (cIf (decide ((↑i:Int) < (↑s.length:Int))) (cIf (decide (i < s.length)) (True∧cIf (!z3o (↑(s.getD i (0:UInt8)).toNat:Int)) (Q (CR.ret (Bo false))) (z0l Tryz.X103 (cd PP 103 [1,1,0,1,0,0]) ([AV.str s,X,X,I (IntKind.i64.wrap ((↑i:Int) + (1:Int)))]++List.replicate 31 X) (St.mk [] [] []) (z0d 0 (z0i Tryz.X103 (cd PP 103 [1,1,1]) (z0f Tryz.X103 103 Q))))) False) (Q (CR.ret (Bo true)))):=by kernel_rfl
theorem v154 (a n:Int) (Q:CR→Prop):wpF Tryz.X154 154 [U a,I n] Q =
 (cIf (a == (1:Int)) (True∧Q (CR.ret (Bo (decide ((1:Int) ≤ n) && decide (n ≤ (5:Int)))))) (cIf (a == (2:Int)) (True∧Q (CR.ret (Bo (decide ((0:Int) ≤ n) && decide (n ≤ (2:Int)))))) (Q (CR.ret (Bo (n == (1:Int))))))):=by kernel_rfl
end Go.Proofs
set_option maxRecDepth 100000
set_option linter.unusedVariables false
namespace Go.Proofs
open Go Go.Ev
theorem x6h {most:Int} {rs:List Rul} (tk:Tok) (hm0:0 ≤ most) (hm1:most ≤ 1000) (hw:z1h rs) (Q:CR→Prop) :
  ∀ (d i:Nat) (n:Int),rs.length - i = d→i ≤ rs.length→0 ≤ n→n ≤ most + most + 1→Q (rB (decide (y7e (rs.drop i) most n ≤ most))) →
   z0l Tryz.X24 (cd PP 24 [1,1,1,0,1,0,0]) ([X,I most,.ptr 0 0,X,X,I n,I i]++List.replicate 31 X) ⟨[some (.cells [.vs (z0c rs) rs.length tk] 25)],[],[]⟩ (z0d 0 (z0i Tryz.X24 (cd PP 24 [1,1,1,1]) (z0f Tryz.X24 24 Q))):=by
 have hlen:=hw.1
 have step:∀ {env S k},wpC Tryz.X24 (cd PP 24 [1,1,1,0,1,0,0]) env S (z0r Tryz.X24 (cd PP 24 [1,1,1,0,1,0,0]) k)→z0l Tryz.X24 (cd PP 24 [1,1,1,0,1,0,0]) env S k:=fun h=>z1b Tryz.bok ((Cts.nil _).cons x6s) h
 intro d
 induction d with
 | zero =>
  intro i n hd hi hn1 hn2 hQ
  have hi':i = rs.length:=by omega
  subst hi'
  refine step ((w0i most n _ _ _ tk Q).mpr (z0p (by simp) ?_))
  simpa [y7e] using hQ
 | succ d ih =>
  intro i n hd hi hn1 hn2 hQ
  have hlt:i < rs.length:=by omega
  obtain ⟨x,hx,hdr⟩:=z1p hlt
  rw [hdr] at hQ
  refine step ((w0i most n _ _ _ tk Q).mpr (z0b (by simp; omega) (z0h (fun h2=>?_) (fun h2=>?_))))
  ·have h2:n ≤ most:=by simpa using h2
   have hb:=y5g x.t most hm0
   refine z0b (by simpa using hlt) (z0b (by simp [z02]) (z0b (by have:=z03 (z02 rs) hlt; simp only [List.length_drop,decide_eq_true_eq] at this ⊢; omega) ?_))
   rw [y5d hx,z6m]
   refine z0b (z2w _) ⟨⟨x.t,rfl,(hw.2 x (List.mem_of_getElem? hx)).1,by omega,by omega⟩,?_⟩
   rw [z0j (fun _ _=>z1a _ _),z09 (x:=(i:Int) + 1) (by omega) (by omega),z09 (by omega) (by omega)]
   refine ih (i + 1) (n + z5i x.t most) (by omega) (by omega) (by omega) (by omega) ?_
   simpa only [y7e,if_pos h2] using hQ
  ·have h2:¬ n ≤ most:=by simpa using h2
   simpa only [y7e,if_neg h2] using hQ
theorem x77:Ct Tryz.B.c0 24 R24:=Ct.of_wp (lm:=[(5,[1,2,5,6]),(9,[1,5])]) Tryz.bok ((Cts.nil _).cons x6s) ⟨_,_,Tryz.func24,rfl⟩ fun args D r hR hD=>by
 unfold R24 at hR
 split at hR <;> cases hR
 rename_i tk most
 obtain ⟨rs,rfl,rfl,hw,h0,h1⟩:=hD
 refine ⟨by simp [noHL,noH,z0t],?_⟩
 rw [show z0e 0 [AV.agg [.vs (z0c rs) rs.length tk],I most] = [AV.agg [.vs (z0c rs) rs.length (tk.scrub 0)],I most] by simp [z0e,scrub,z1f]]
 refine (v24 _ _ _ _ _).mpr ?_
 rw [z0j z0u]
 refine z0h (fun h=>?_) (fun h=>?_)
 ·have h:¬ rs.length ≤ 25:=by simp at h; omega
  apply z2r; simp [y5v,h]
 ·have h:rs.length ≤ 25:=by simp at h; omega
  refine x6h _ h0 h1 hw _ _ 0 0 rfl (Nat.zero_le _) (by omega) (by omega) ?_
  apply z2r; simp [y5v,h]

mutual
theorem x4r:∀ (t:Tst) (m:Int),0 ≤ m→1 ≤ dpT t m∧dpT t m ≤ m + 1
 | .mk _ _ _ _ of,m,hm=>by
  simp only [dpT]
  have:=y98 of m 0 (by omega) (by omega) hm
  omega
theorem y98:∀ (l:List Tst) (m n:Int),0 ≤ n→n ≤ m→0 ≤ m→n ≤ dpL l m n∧dpL l m n ≤ m
 | [],m,n,h1,h2,hm=>by simp only [dpL]; omega
 | t :: l,m,n,h1,h2,hm=>by
  simp only [dpL]
  split
  ·have h3:=x4r t (m - 1) (by omega)
   split
   ·have:=y98 l m (dpT t (m - 1)) (by omega) (by omega) hm
    omega
   ·exact y98 l m n (by omega) (by omega) hm
  ·omega
end
theorem x2q {m:Nat} (hc:Cts Tryz.B [(192,R192.below m)]) {op attr side k most:Int} {of:List Tst} (hm0:0 ≤ most) (hm1:most ≤ 1000) (hlen:of.length ≤ 9223372036854775807) (hwf:z6p of) (hsz:z0o (z0q of) + 3 ≤ m) (Q:CR→Prop) :
  ∀ (d i:Nat) (n:Int),of.length - i = d→i ≤ of.length→0 ≤ n→n ≤ most→Q (rI (dpL (of.drop i) most n + 1)) →
   z0l (Tryz.X192 m) (cd PP 192 [1,1,0,1,0,0]) ([X,I most,.ptr 0 0,X,X,I n,I i]++List.replicate 26 X) ⟨[some (.cells [U op,U attr,U side,I k,.vs (z0q of) of.length .none] 71)],[],[]⟩ (z0d 0 (z0i (Tryz.X192 m) (cd PP 192 [1,1,1]) (z0f (Tryz.X192 m) 192 Q))):=by
 intro d
 induction d with
 | zero =>
  intro i n hd hi hn1 hn2 hQ
  have hi':i = of.length:=by omega
  subst hi'
  refine z1b Tryz.bok hc ((x7j m op attr side k most n _ _ _ Q).mpr (z0p (by simp) ?_))
  rw [z09 (by omega) (by omega)]
  simpa [dpL] using hQ
 | succ d ih =>
  intro i n hd hi hn1 hn2 hQ
  have hlt:i < of.length:=by omega
  obtain ⟨x,hx,hdr⟩:=z1p hlt
  rw [hdr] at hQ
  refine z1b Tryz.bok hc ((x7j m op attr side k most n _ _ _ Q).mpr (z0b (by simp; omega) (z0h (fun h2=>?_) (fun h2=>?_))))
  ·have h2:n < most:=by simpa using h2
   have hb:=x4r x (most - 1) (by omega)
   refine z0b (by simpa using hlt) (z0b (by simp [z1n]) (z0b (by have:=z03 (z1n of) hlt; simpa using this) ?_))
   rw [z6x hx,z6m,z09 (x:=most - 1) (by omega) (by omega)]
   have hs:=z5y hx
   refine z0b (z2w x) ⟨⟨⟨x,rfl,z6u hwf hx,by omega,by omega⟩,?_⟩,?_⟩
   ·simp only [List.nil_append,List.append_nil,z0o,z2q]
    omega
   ·rw [z0j (fun _ _=>z1a _ _),z09 (x:=(i:Int) + 1) (by omega) (by omega)]
    refine ih (i + 1) _ (by omega) (by omega) (by split <;> omega) (by split <;> omega) ?_
    simpa only [dpL,if_pos h2] using hQ
  ·have h2:¬ n < most:=by simpa using h2
   rw [z09 (by omega) (by omega)]
   simpa only [dpL,if_neg h2] using hQ
theorem w30:Ct Tryz.B.c0 192 R192:=Ct.of_rec (lm:=[(3,[1,2,5,6]),(7,[5])]) Tryz.bok (Cts.nil _) ⟨_,_,Tryz.func192,rfl⟩ fun m args D r hc hR hD hm=>by
 unfold R192 at hR
 split at hR <;> cases hR
 rename_i most
 obtain ⟨⟨op,attr,side,k,of⟩,rfl,hw,h0,h1⟩:=hD
 simp only [wfT] at hw
 refine ⟨by simp [noHL,noH,z1k],?_⟩
 rw [show z0e 0 [AV.agg (z0m (.mk op attr side k of)),I most] = [AV.agg (z0m (.mk op attr side k of)),I most] by simp [z0e,scrub,z3q]]
 refine (w6q m op attr side k _ _ _ _).mpr ?_
 refine x2q hc h0 h1 (by omega) hw.2.2.2.2.2.2.2.2.2 (by simp only [z0o,z2q,z0m] at hm; omega) _ _ 0 0 rfl (Nat.zero_le _) (by omega) (by omega) ?_
 rw [z0j (fun _ _=>z1a _ _)]
 rfl

theorem w4e:Ct Tryz.B.c0 149 R149:=Ct.of_wp (lm:=[]) Tryz.bok (((Cts.nil _).cons w30).cons x6s) ⟨_,_,Tryz.func149,rfl⟩ fun args D r hR hD=>by
 unfold R149 at hR
 split at hR <;> cases hR
 obtain ⟨⟨op,attr,side,k,of⟩,rfl,hw⟩:=hD
 refine ⟨by simp [noHL,noH,z1k],?_⟩
 rw [show z0e 0 [AV.agg (z0m (.mk op attr side k of))] = [AV.agg (z0m (.mk op attr side k of))] by simp [z0e,scrub,z3q],z0j (fun _ _=>z1a _ _)]
 refine (w6y op attr side k _ _ _).mpr ?_
 rw [show [U op,U attr,U side,I k,AV.vs (z0q of) of.length Tok.none] = z0m (.mk op attr side k of) from rfl,z0j (fun _ _=>z1a _ _),z0j (fun _ _=>z1a _ _)]
 refine ⟨⟨_,rfl,hw,by omega,by omega⟩,z0h (fun h=>?_) (fun h=>⟨⟨_,rfl,hw,by omega,by omega⟩,z0h (fun h2=>?_) (fun h2=>?_)⟩)⟩
 ·simp at h
  simp [szR,h]
 ·simp at h h2
  have h':¬ (24 < z5i (Tst.mk op attr side k of) 24):=by omega
  simp [szR,h',h2]
 ·simp at h h2
  have h':¬ (24 < z5i (Tst.mk op attr side k of) 24):=by omega
  have h2':¬ (6 < dpT (Tst.mk op attr side k of) 6):=by omega
  simp [szR,h',h2']
theorem w4m:Ct Tryz.B.c0 109 R109:=Ct.of_wp (lm:=[]) Tryz.bok ((Cts.nil _).cons w4e) ⟨_,_,Tryz.func109,rfl⟩ fun args D r hR hD=>by
 unfold R109 at hR
 split at hR <;> cases hR
 obtain ⟨⟨op,attr,side,k,of⟩,rfl,hw⟩:=hD
 refine ⟨by simp [noHL,noH,z1k],?_⟩
 rw [show z0e 0 [AV.agg (z0m (.mk op attr side k of))] = [AV.agg (z0m (.mk op attr side k of))] by simp [z0e,scrub,z3q],z0j (fun _ _=>z1a _ _)]
 refine (v109 op attr side k _ _ _).mpr ?_
 rw [show [U op,U attr,U side,I k,AV.vs (z0q of) of.length Tok.none] = z0m (.mk op attr side k of) from rfl,z0j (fun _ _=>z1a _ _)]
 exact ⟨⟨_,rfl,hw⟩,rfl⟩

def R103:Spc:=fun args=>match args with
 | [.str s]=>some (s.length ≤ 9223372036854775807,rB (z1s s))
 | _=>none
theorem x3m {s:List UInt8} (hlen:s.length ≤ 9223372036854775807) (Q:CR→Prop) :
  ∀ (d i:Nat),s.length - i = d→i ≤ s.length→Q (rB ((s.drop i).all fun c=>z3o (c.toNat:Int))) →
   z0l Tryz.X103 (cd PP 103 [1,1,0,1,0,0]) ([.str s,X,X,I i]++List.replicate 31 X) ⟨[],[],[]⟩ (z0d 0 (z0i Tryz.X103 (cd PP 103 [1,1,1]) (z0f Tryz.X103 103 Q))):=by
 have step:∀ {env S k},wpC Tryz.X103 (cd PP 103 [1,1,0,1,0,0]) env S (z0r Tryz.X103 (cd PP 103 [1,1,0,1,0,0]) k)→z0l Tryz.X103 (cd PP 103 [1,1,0,1,0,0]) env S k:=fun h=>z1b Tryz.bok ((Cts.nil _).cons x72) h
 intro d
 induction d with
 | zero =>
  intro i hd hi hQ
  have hi':i = s.length:=by omega
  subst hi'
  refine step ((x7p _ _ Q).mpr (z0p (by simp) ?_))
  simpa using hQ
 | succ d ih =>
  intro i hd hi hQ
  have hlt:i < s.length:=by omega
  obtain ⟨x,hx,hdr⟩:=z1p hlt
  rw [hdr] at hQ
  have hg:s.getD i 0 = x:=by simp [List.getD_eq_getElem?_getD,hx]
  refine step ((x7p _ _ Q).mpr (z0b (by simp; omega) (z0b (by simpa using hlt) ⟨trivial,?_⟩)))
  rw [hg]
  refine z0h (fun h2=>?_) (fun h2=>?_)
  ·simp at h2
   simpa [h2] using hQ
  ·simp at h2
   rw [z09 (by omega) (by omega)]
   refine ih (i + 1) (by omega) (by omega) ?_
   simpa [h2] using hQ
theorem w4n:Ct Tryz.B.c0 103 R103:=Ct.of_wp (lm:=[(4,[0,3]),(9,[])]) Tryz.bok ((Cts.nil _).cons x72) ⟨_,_,Tryz.func103,rfl⟩ fun args D r hR hD=>by
 unfold R103 at hR
 split at hR <;> cases hR
 rename_i s
 refine ⟨rfl,(w7a _ _).mpr ?_⟩
 refine z0h (fun h=>?_) (fun h=>z0h (fun h1=>?_) (fun h1=>z0b ?_ (z0h (fun h2=>?_) (fun h2=>z0b ?_ (z0h (fun h3=>?_) (fun h3=>?_))))))
 ·apply z2r; simp [z1s] at *; omega
 ·apply z2r; simp [z1s] at *; omega
 ·simp at *; omega
 ·apply z2r; simp [z1s] at *; omega
 ·simp at *; omega
 ·apply z2r; simp [z1s] at *; omega
 ·refine x3m hD _ _ 0 rfl (Nat.zero_le _) ?_
  apply z2r
  simp only [z1s,List.drop_zero,Bool.and_eq_true,decide_eq_true_eq]
  simp at h h1 h2 h3
  constructor
  ·intro hh; exact ⟨⟨⟨⟨by omega,by omega⟩,by simpa using h2⟩,by simpa using h3⟩,hh⟩
  ·intro hh; exact hh.2
def R154:Spc:=fun args=>match args with
 | [.int .u8 a,.int .i64 n]=>some (True,rB (y3h a n))
 | _=>none
theorem w4b:Ct Tryz.B.c0 154 R154:=Ct.of_wp (lm:=[]) Tryz.bok ((Cts.nil _).cons x3j) ⟨_,_,Tryz.func154,rfl⟩ fun args D r hR hD=>by
 unfold R154 at hR
 split at hR <;> cases hR
 refine ⟨rfl,(v154 _ _ _).mpr ?_⟩
 refine z0h (fun h=>⟨trivial,?_⟩) (fun h=>z0h (fun h1=>⟨trivial,?_⟩) (fun h1=>?_))
 all_goals (apply z2r; simp [y3h] at *; simp [*])
end Go.Proofs
