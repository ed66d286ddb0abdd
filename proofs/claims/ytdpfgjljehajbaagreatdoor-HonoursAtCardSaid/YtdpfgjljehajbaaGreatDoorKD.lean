/- Contracts of functions of the program and of the reference. -/
import Derived.Test.YtdpfgjljehajbaaGreatDoorK1
set_option linter.unusedVariables false
set_option linter.unusedSimpArgs false
set_option linter.unusedVariables false
namespace Go.Ev
structure EncOk {α:Type} (enc:α→List AV) (sz:Nat):Prop where
 len:∀ x,(enc x).length = sz
 inj:∀ x y,enc x = enc y→x = y
 noH:∀ n x,noHL n (enc x) = true
 sc:∀ n x,z0e n (enc x) = enc x
 one:∀ x,(enc x).all AV.one = true
def z0a {α:Type} (enc:α→List AV):List α→List AV
 | []=>[]
 | x :: l=>enc x++z0a enc l
theorem z00 (n:Nat):∀ l m:List AV,noHL n (l++m) = (noHL n l && noHL n m)
 | [],m=>by simp [noHL]
 | a :: l,m=>by simp [noHL,z00 n l m,Bool.and_assoc]
theorem y1y (n:Nat):∀ l m:List AV,z0e n (l++m) = z0e n l++z0e n m
 | [],m=>by simp [z0e]
 | a :: l,m=>by simp [z0e,y1y n l m]
theorem x7e (l:List AV) (a b n:Nat):el (l.drop a) b n = el l (a + b) n:=by unfold el; rw [List.drop_drop]
section
variable {α:Type} {enc:α→List AV} {sz:Nat} (E:EncOk enc sz)
include E
theorem EncOk.lenL:∀ l:List α,(z0a enc l).length = l.length * sz
 | []=>by simp [z0a]
 | t :: l=>by simp only [z0a,List.length_append,E.len,EncOk.lenL l,List.length_cons]; rw [Nat.succ_mul]; omega
theorem EncOk.noHL' (n:Nat):∀ l:List α,noHL n (z0a enc l) = true
 | []=>rfl
 | t :: l=>by simp [z0a,z00,E.noH n t,EncOk.noHL' n l]
theorem EncOk.scL (n:Nat):∀ l:List α,z0e n (z0a enc l) = z0a enc l
 | []=>rfl
 | t :: l=>by simp [z0a,y1y,E.sc n t,EncOk.scL n l]
theorem EncOk.injL (h0:0 < sz):∀ l m:List α,z0a enc l = z0a enc m→l = m
 | [],[],h=>rfl
 | [],t :: m,h=>by have:=congrArg List.length h; simp [z0a,E.len] at this; omega
 | t :: l,[],h=>by have:=congrArg List.length h; simp [z0a,E.len] at this; omega
 | s :: l,t :: m,h=>by
  simp only [z0a] at h
  have:=List.append_inj h (by rw [E.len,E.len])
  rw [E.inj s t this.1,EncOk.injL h0 l m this.2]
theorem EncOk.dropL (l:List α) (k:Nat):(z0a enc l).drop (k * sz) = z0a enc (l.drop k):=by
 induction k generalizing l with
 | zero=>simp
 | succ k ih =>
  cases l with
  | nil=>simp [z0a]
  | cons x l =>
   rw [z0a,Nat.succ_mul,Nat.add_comm,← List.drop_drop,List.drop_left' (E.len x),ih]
   rfl
theorem EncOk.takeL (l:List α) (k:Nat):(z0a enc l).take (k * sz) = z0a enc (l.take k):=by
 induction k generalizing l with
 | zero=>simp [z0a]
 | succ k ih =>
  cases l with
  | nil=>simp [z0a]
  | cons x l =>
   rw [z0a,List.take_succ_cons,z0a,Nat.succ_mul,Nat.add_comm (k * sz) sz,← E.len x,List.take_append]
   simp only [E.len,Nat.add_sub_cancel_left,ih]
   rw [List.take_of_length_le (by rw [E.len]; omega)]
theorem EncOk.get {l:List α} {k:Nat} {x:α} (h:l[k]? = some x):el (z0a enc l) (k * sz) sz = enc x:=by
 unfold el
 rw [E.dropL]
 have hk:=(List.getElem?_eq_some_iff.1 h).1
 rw [List.drop_eq_getElem_cons hk,z0a,List.take_append_of_le_length (by rw [E.len]; exact Nat.le_refl _),List.take_of_length_le (by rw [E.len]; exact Nat.le_refl _)]
 rw [(List.getElem?_eq_some_iff.1 h).2]
theorem EncOk.el {l:List α} {k:Nat} {x:α} (h:l[k]? = some x):Go.Ev.el (List.drop (k * sz) (z0a enc l)) 0 sz = enc x:=by rw [x7e]; exact E.get h
theorem EncOk.getD {l:List α} {k:Nat} {x:α} (h:l[k]? = some x) (f:Nat) (hf:f < sz):(List.drop (k * sz) (z0a enc l)).getD f .bad = (enc x).getD f .bad:=by
 have hk:=(List.getElem?_eq_some_iff.1 h).1
 rw [E.dropL,List.drop_eq_getElem_cons hk,z0a,(List.getElem?_eq_some_iff.1 h).2,List.getD_eq_getElem?_getD,List.getElem?_append_left (by rw [E.len]; exact hf),List.getD_eq_getElem?_getD]
theorem EncOk.dl {l:List α} {k:Nat} (hk:k < l.length):sz ≤ ((z0a enc l).drop (k * sz)).length:=by
 rw [List.length_drop,E.lenL]
 have:(k + 1) * sz ≤ l.length * sz:=Nat.mul_le_mul_right _ hk
 rw [Nat.succ_mul] at this
 omega
theorem EncOk.cI {l:List α} {k:Nat} {x:α} (h:l[k]? = some x) (f:Nat) (hf:f < sz):Go.Ev.cI (List.drop f (List.drop (k * sz) (z0a enc l))) 0 = Go.Ev.cI (enc x) f:=by
 unfold Go.Ev.cI
 rw [List.getD_eq_getElem?_getD,List.getElem?_drop,Nat.add_zero,← List.getD_eq_getElem?_getD,E.getD h f hf]
theorem EncOk.cI0 {l:List α} {k:Nat} {x:α} (h:l[k]? = some x) (hf:0 < sz):Go.Ev.cI (List.drop (k * sz) (z0a enc l)) 0 = Go.Ev.cI (enc x) 0:=by
 unfold Go.Ev.cI
 rw [E.getD h 0 hf]
theorem EncOk.cB {l:List α} {k:Nat} {x:α} (h:l[k]? = some x) (f:Nat) (hf:f < sz):Go.Ev.cB (List.drop f (List.drop (k * sz) (z0a enc l))) 0 = Go.Ev.cB (enc x) f:=by
 unfold Go.Ev.cB
 rw [List.getD_eq_getElem?_getD,List.getElem?_drop,Nat.add_zero,← List.getD_eq_getElem?_getD,E.getD h f hf]
theorem EncOk.cS {l:List α} {k:Nat} {x:α} (h:l[k]? = some x) (f:Nat) (hf:f < sz):Go.Ev.cS (List.drop f (List.drop (k * sz) (z0a enc l))) 0 = Go.Ev.cS (enc x) f:=by
 unfold Go.Ev.cS
 rw [List.getD_eq_getElem?_getD,List.getElem?_drop,Nat.add_zero,← List.getD_eq_getElem?_getD,E.getD h f hf]
theorem EncOk.ld {l:List α} {k:Nat} {x:α} (h:l[k]? = some x) (f:Nat) (hf:f < sz):(List.drop f (List.drop (k * sz) (z0a enc l))).getD 0 .bad = (enc x).getD f .bad:=by
 rw [List.getD_eq_getElem?_getD,List.getElem?_drop,Nat.add_zero,← List.getD_eq_getElem?_getD,E.getD h f hf]
theorem EncOk.ld0 {l:List α} {k:Nat} {x:α} (h:l[k]? = some x) (hf:0 < sz):(List.drop (k * sz) (z0a enc l)).getD 0 .bad = (enc x).getD 0 .bad:=E.getD h 0 hf
end
theorem z06 {α:Type} {l:List α} {i:Nat} (h:i < l.length):∃ x,l[i]? = some x∧l.drop i = x :: l.drop (i + 1) :=
 ⟨l[i],List.getElem?_eq_getElem h,List.drop_eq_getElem_cons h⟩
theorem y86 {α:Type} (enc:α→List AV):∀ l m:List α,z0a enc (l++m) = z0a enc l++z0a enc m
 | [],m=>rfl
 | x :: l,m=>by simp [z0a,y86 enc l m]

open Classical in
noncomputable def z0c {α β:Type} (enc:α→List AV) (f:α→β) (d:β) (l:List AV):β:=if h:∃ a,l = enc a then f h.choose else d
theorem x4d {α β:Type} {enc:α→List AV} (hinj:∀ a b,enc a = enc b→a = b) (f:α→β) (d:β) (a:α):z0c enc f d (enc a) = f a:=by
 have h:∃ b,enc a = enc b:=⟨a,rfl⟩
 unfold z0c
 rw [dif_pos h,← hinj _ _ h.choose_spec]
theorem EncOk.on {α β:Type} {enc:α→List AV} {sz:Nat} (E:EncOk enc sz) (h0:0 < sz) (f:List α→β) (d:β) (a:List α):z0c (z0a enc) f d (z0a enc a) = f a:=x4d (E.injL h0) f d a

structure Mst where
 id:Int
 zo:Int
structure Dcr where
 id:Int
 ki:Int
 ma:Int
 st:Int
 ra:Int
 fr:Int
 un:Int
 op:Int
 cl:Int
structure Sho where
 fl:Int
 ho:Bool
deriving DecidableEq
structure Trn where
 at':Int
 fl:Int
 ho:Bool
deriving DecidableEq
structure Tun where
 st:Int
 si:Int
 nm:List UInt8
structure Sal where
 at':Int
 gu:Int
 ga:Int
structure Hrs where
 op:Int
 cl:Int
 d0:Bool
 d1:Bool
 d2:Bool
 d3:Bool
 d4:Bool
 d5:Bool
 d6:Bool
def z0d (x:Mst):List AV:=[I x.id,I x.zo]
def z0b (x:Dcr):List AV:=[I x.id,U x.ki,I x.ma,I x.st,I x.ra,I x.fr,I x.un,I x.op,I x.cl]
def x9p (x:Trn):List AV:=[I x.at',I x.fl,Bo x.ho]
def x9o (x:Tun):List AV:=[I x.st,I x.si,.str x.nm]
def x6 (x:Sal):List AV:=[I x.at',I x.gu,I x.ga]
def z0s (x:Int):List AV:=[I x]
theorem eM:EncOk z0d 2:=⟨fun _=>rfl,fun x y h=>by cases x; cases y; simp [z0d] at h; simp [h],fun _ _=>rfl,fun _ _=>rfl,fun _=>rfl⟩
theorem eD:EncOk z0b 9:=⟨fun _=>rfl,fun x y h=>by cases x; cases y; simp [z0b] at h; simp [h],fun _ _=>rfl,fun _ _=>rfl,fun _=>rfl⟩
theorem eT:EncOk x9p 3:=⟨fun _=>rfl,fun x y h=>by cases x; cases y; simp [x9p] at h; simp [h],fun _ _=>rfl,fun _ _=>rfl,fun _=>rfl⟩
theorem eU:EncOk x9o 3:=⟨fun _=>rfl,fun x y h=>by cases x; cases y; simp [x9o] at h; simp [h],fun _ _=>rfl,fun _ _=>rfl,fun _=>rfl⟩
theorem eSv:EncOk x6 3:=⟨fun _=>rfl,fun x y h=>by cases x; cases y; simp [x6] at h; simp [h],fun _ _=>rfl,fun _ _=>rfl,fun _=>rfl⟩
theorem eNum:EncOk z0s 1:=⟨fun _=>rfl,fun x y h=>by simpa [z0s] using h,fun _ _=>rfl,fun _ _=>rfl,fun _=>rfl⟩
def i64 (n:Int):Prop:=-9223372036854775808 ≤ n∧n ≤ 9223372036854775807
def okM (x:Mst):Prop:=i64 x.id∧i64 x.zo
def okD (x:Dcr):Prop:=i64 x.id∧(0 ≤ x.ki∧x.ki ≤ 255)∧i64 x.ma∧i64 x.st∧i64 x.ra∧i64 x.fr∧i64 x.un∧i64 x.op∧i64 x.cl
def okU (x:Tun):Prop:=i64 x.st∧i64 x.si∧x.nm.length ≤ 9223372036854775807
theorem z1c {x:Int} (h1:-9223372036854775808 ≤ x) (h2:x ≤ 9223372036854775807):IntKind.i64.wrap x = x:=by
 simp [IntKind.wrap,IntKind.signed,IntKind.bits]
 omega
end Go.Ev
set_option linter.unusedVariables false
namespace Go.Ev
theorem z1r (n k:Nat):noHL n (List.replicate k X) = true:=by
 induction k with
 | zero=>rfl
 | succ k ih=>simp [List.replicate_succ,noHL,noH,ih]
theorem dt {p:Prop} [Decidable p] (h:p):decide p = true:=decide_eq_true h
theorem df {p:Prop} [Decidable p] (h:¬ p):decide p = false:=decide_eq_false h
section
variable {α:Type} {enc:α→List AV} {sz:Nat} (E:EncOk enc sz) {xs:List α} {k:Nat}
include E
theorem EncOk.gl:decide (xs.length * sz = (z0a enc xs).length) = true:=dt (E.lenL xs).symm
theorem EncOk.gd (hk:k < xs.length):decide (sz ≤ (List.drop (k * sz) (z0a enc xs)).length) = true:=dt (E.dl hk)
theorem EncOk.g0 (hk:k < xs.length) (h:0 < sz):decide (0 < (List.drop (k * sz) (z0a enc xs)).length) = true:=dt (Nat.lt_of_lt_of_le h (E.dl hk))
theorem EncOk.gf (hk:k < xs.length) (f:Nat) (hf:f < sz):decide (0 < (List.drop f (List.drop (k * sz) (z0a enc xs))).length) = true:=dt (by have:=E.dl hk; rw [List.length_drop]; omega)
end
theorem z9p (x:Mst):like [I 0,I 0] (z0d x) = true:=rfl
theorem y1u (x:Mst):z0t (AV.ofVal (Value.int IntKind.i64 (0:Int))) ((z0d x).getD 0 X) = true:=rfl
theorem y40 (x:Mst):cI (z0d x) 0 = x.id:=rfl
theorem y1t (x:Mst):z0t (AV.ofVal (Value.int IntKind.i64 (0:Int))) ((z0d x).getD 1 X) = true:=rfl
theorem y4z (x:Mst):cI (z0d x) 1 = x.zo:=rfl
theorem z16 (x:Dcr):like [I 0,U 0,I 0,I 0,I 0,I 0,I 0,I 0,I 0] (z0b x) = true:=rfl
theorem z2t (x:Dcr):z0t (AV.ofVal (Value.int IntKind.i64 (0:Int))) ((z0b x).getD 0 X) = true:=rfl
theorem z4j (x:Dcr):cI (z0b x) 0 = x.id:=rfl
theorem z2s (x:Dcr):z0t (AV.ofVal (Value.int IntKind.u8 (0:Int))) ((z0b x).getD 1 X) = true:=rfl
theorem z4i (x:Dcr):cI (z0b x) 1 = x.ki:=rfl
theorem z2r (x:Dcr):z0t (AV.ofVal (Value.int IntKind.i64 (0:Int))) ((z0b x).getD 2 X) = true:=rfl
theorem z4h (x:Dcr):cI (z0b x) 2 = x.ma:=rfl
theorem z2q (x:Dcr):z0t (AV.ofVal (Value.int IntKind.i64 (0:Int))) ((z0b x).getD 3 X) = true:=rfl
theorem z4g (x:Dcr):cI (z0b x) 3 = x.st:=rfl
theorem z2p (x:Dcr):z0t (AV.ofVal (Value.int IntKind.i64 (0:Int))) ((z0b x).getD 4 X) = true:=rfl
theorem z4f (x:Dcr):cI (z0b x) 4 = x.ra:=rfl
theorem z2o (x:Dcr):z0t (AV.ofVal (Value.int IntKind.i64 (0:Int))) ((z0b x).getD 5 X) = true:=rfl
theorem z4e (x:Dcr):cI (z0b x) 5 = x.fr:=rfl
theorem z2n (x:Dcr):z0t (AV.ofVal (Value.int IntKind.i64 (0:Int))) ((z0b x).getD 6 X) = true:=rfl
theorem z4d (x:Dcr):cI (z0b x) 6 = x.un:=rfl
theorem z2m (x:Dcr):z0t (AV.ofVal (Value.int IntKind.i64 (0:Int))) ((z0b x).getD 7 X) = true:=rfl
theorem z4c (x:Dcr):cI (z0b x) 7 = x.op:=rfl
theorem z2l (x:Dcr):z0t (AV.ofVal (Value.int IntKind.i64 (0:Int))) ((z0b x).getD 8 X) = true:=rfl
theorem z4b (x:Dcr):cI (z0b x) 8 = x.cl:=rfl
end Go.Ev
set_option linter.unusedVariables false
namespace Go.Ev
def Trn.sh (x:Trn):Sho:=⟨x.fl,x.ho⟩
end Go.Ev
