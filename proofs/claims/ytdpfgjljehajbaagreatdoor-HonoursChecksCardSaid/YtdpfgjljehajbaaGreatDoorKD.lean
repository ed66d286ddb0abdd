/- Contracts of functions of the program and of the reference. -/
import Derived.Test.YtdpfgjljehajbaaGreatDoorK1
set_option linter.unusedVariables false
set_option linter.unusedSimpArgs false
/-! TD5 -/
set_option linter.unusedVariables false
namespace Go.Ev
/-! The data of the honours' statements. -/
/-- A type whose values are laid in sz cells. -/
structure EncOk {α : Type} (enc : α → List AV) (sz : Nat) : Prop where
  len : ∀ x, (enc x).length = sz
  inj : ∀ x y, enc x = enc y → x = y
  noH : ∀ n x, noHL n (enc x) = true
  sc : ∀ n x, scrubL n (enc x) = enc x
  one : ∀ x, (enc x).all AV.one = true
def encL {α : Type} (enc : α → List AV) : List α → List AV
  | [] => []
  | x :: l => enc x ++ encL enc l
theorem noHL_append (n : Nat) : ∀ l m : List AV, noHL n (l ++ m) = (noHL n l && noHL n m)
  | [], m => by simp [noHL]
  | a :: l, m => by simp [noHL, noHL_append n l m, Bool.and_assoc]
theorem scrubL_append (n : Nat) : ∀ l m : List AV, scrubL n (l ++ m) = scrubL n l ++ scrubL n m
  | [], m => by simp [scrubL]
  | a :: l, m => by simp [scrubL, scrubL_append n l m]
theorem el_drop (l : List AV) (a b n : Nat) : el (l.drop a) b n = el l (a + b) n := by unfold el; rw [List.drop_drop]
section
variable {α : Type} {enc : α → List AV} {sz : Nat} (E : EncOk enc sz)
include E
theorem EncOk.lenL : ∀ l : List α, (encL enc l).length = l.length * sz
  | [] => by simp [encL]
  | t :: l => by simp only [encL, List.length_append, E.len, EncOk.lenL l, List.length_cons]; rw [Nat.succ_mul]; omega
theorem EncOk.noHL' (n : Nat) : ∀ l : List α, noHL n (encL enc l) = true
  | [] => rfl
  | t :: l => by simp [encL, noHL_append, E.noH n t, EncOk.noHL' n l]
theorem EncOk.scL (n : Nat) : ∀ l : List α, scrubL n (encL enc l) = encL enc l
  | [] => rfl
  | t :: l => by simp [encL, scrubL_append, E.sc n t, EncOk.scL n l]
theorem EncOk.injL (h0 : 0 < sz) : ∀ l m : List α, encL enc l = encL enc m → l = m
  | [], [], h => rfl
  | [], t :: m, h => by have := congrArg List.length h; simp [encL, E.len] at this; omega
  | t :: l, [], h => by have := congrArg List.length h; simp [encL, E.len] at this; omega
  | s :: l, t :: m, h => by
    simp only [encL] at h
    have := List.append_inj h (by rw [E.len, E.len])
    rw [E.inj s t this.1, EncOk.injL h0 l m this.2]
theorem EncOk.dropL (l : List α) (k : Nat) : (encL enc l).drop (k * sz) = encL enc (l.drop k) := by
  induction k generalizing l with
  | zero => simp
  | succ k ih =>
    cases l with
    | nil => simp [encL]
    | cons x l =>
      rw [encL, Nat.succ_mul, Nat.add_comm, ← List.drop_drop, List.drop_left' (E.len x), ih]
      rfl
theorem EncOk.takeL (l : List α) (k : Nat) : (encL enc l).take (k * sz) = encL enc (l.take k) := by
  induction k generalizing l with
  | zero => simp [encL]
  | succ k ih =>
    cases l with
    | nil => simp [encL]
    | cons x l =>
      rw [encL, List.take_succ_cons, encL, Nat.succ_mul, Nat.add_comm (k * sz) sz, ← E.len x, List.take_append]
      simp only [E.len, Nat.add_sub_cancel_left, ih]
      rw [List.take_of_length_le (by rw [E.len]; omega)]
/-- An element. -/
theorem EncOk.get {l : List α} {k : Nat} {x : α} (h : l[k]? = some x) : el (encL enc l) (k * sz) sz = enc x := by
  unfold el
  rw [E.dropL]
  have hk := (List.getElem?_eq_some_iff.1 h).1
  rw [List.drop_eq_getElem_cons hk, encL, List.take_append_of_le_length (by rw [E.len]; exact Nat.le_refl _), List.take_of_length_le (by rw [E.len]; exact Nat.le_refl _)]
  rw [(List.getElem?_eq_some_iff.1 h).2]
theorem EncOk.el {l : List α} {k : Nat} {x : α} (h : l[k]? = some x) : Go.Ev.el (List.drop (k * sz) (encL enc l)) 0 sz = enc x := by rw [el_drop]; exact E.get h
theorem EncOk.getD {l : List α} {k : Nat} {x : α} (h : l[k]? = some x) (f : Nat) (hf : f < sz) : (List.drop (k * sz) (encL enc l)).getD f .bad = (enc x).getD f .bad := by
  have hk := (List.getElem?_eq_some_iff.1 h).1
  rw [E.dropL, List.drop_eq_getElem_cons hk, encL, (List.getElem?_eq_some_iff.1 h).2, List.getD_eq_getElem?_getD, List.getElem?_append_left (by rw [E.len]; exact hf), List.getD_eq_getElem?_getD]
theorem EncOk.dl {l : List α} {k : Nat} (hk : k < l.length) : sz ≤ ((encL enc l).drop (k * sz)).length := by
  rw [List.length_drop, E.lenL]
  have : (k + 1) * sz ≤ l.length * sz := Nat.mul_le_mul_right _ hk
  rw [Nat.succ_mul] at this
  omega
theorem EncOk.cI {l : List α} {k : Nat} {x : α} (h : l[k]? = some x) (f : Nat) (hf : f < sz) : Go.Ev.cI (List.drop f (List.drop (k * sz) (encL enc l))) 0 = Go.Ev.cI (enc x) f := by
  unfold Go.Ev.cI
  rw [List.getD_eq_getElem?_getD, List.getElem?_drop, Nat.add_zero, ← List.getD_eq_getElem?_getD, E.getD h f hf]
theorem EncOk.cI0 {l : List α} {k : Nat} {x : α} (h : l[k]? = some x) (hf : 0 < sz) : Go.Ev.cI (List.drop (k * sz) (encL enc l)) 0 = Go.Ev.cI (enc x) 0 := by
  unfold Go.Ev.cI
  rw [E.getD h 0 hf]
theorem EncOk.cB {l : List α} {k : Nat} {x : α} (h : l[k]? = some x) (f : Nat) (hf : f < sz) : Go.Ev.cB (List.drop f (List.drop (k * sz) (encL enc l))) 0 = Go.Ev.cB (enc x) f := by
  unfold Go.Ev.cB
  rw [List.getD_eq_getElem?_getD, List.getElem?_drop, Nat.add_zero, ← List.getD_eq_getElem?_getD, E.getD h f hf]
theorem EncOk.cS {l : List α} {k : Nat} {x : α} (h : l[k]? = some x) (f : Nat) (hf : f < sz) : Go.Ev.cS (List.drop f (List.drop (k * sz) (encL enc l))) 0 = Go.Ev.cS (enc x) f := by
  unfold Go.Ev.cS
  rw [List.getD_eq_getElem?_getD, List.getElem?_drop, Nat.add_zero, ← List.getD_eq_getElem?_getD, E.getD h f hf]
theorem EncOk.ld {l : List α} {k : Nat} {x : α} (h : l[k]? = some x) (f : Nat) (hf : f < sz) : (List.drop f (List.drop (k * sz) (encL enc l))).getD 0 .bad = (enc x).getD f .bad := by
  rw [List.getD_eq_getElem?_getD, List.getElem?_drop, Nat.add_zero, ← List.getD_eq_getElem?_getD, E.getD h f hf]
theorem EncOk.ld0 {l : List α} {k : Nat} {x : α} (h : l[k]? = some x) (hf : 0 < sz) : (List.drop (k * sz) (encL enc l)).getD 0 .bad = (enc x).getD 0 .bad := E.getD h 0 hf
end
theorem drop_cons {α : Type} {l : List α} {i : Nat} (h : i < l.length) : ∃ x, l[i]? = some x ∧ l.drop i = x :: l.drop (i + 1) :=
  ⟨l[i], List.getElem?_eq_getElem h, List.drop_eq_getElem_cons h⟩
open Classical in
/-- A function on what is encoded. -/
noncomputable def onEnc {α β : Type} (enc : α → List AV) (f : α → β) (d : β) (l : List AV) : β := if h : ∃ a, l = enc a then f h.choose else d
theorem onEnc_eq {α β : Type} {enc : α → List AV} (hinj : ∀ a b, enc a = enc b → a = b) (f : α → β) (d : β) (a : α) : onEnc enc f d (enc a) = f a := by
  have h : ∃ b, enc a = enc b := ⟨a, rfl⟩
  unfold onEnc
  rw [dif_pos h, ← hinj _ _ h.choose_spec]
theorem EncOk.on {α β : Type} {enc : α → List AV} {sz : Nat} (E : EncOk enc sz) (h0 : 0 < sz) (f : List α → β) (d : β) (a : List α) : onEnc (encL enc) f d (encL enc a) = f a := onEnc_eq (E.injL h0) f d a

structure Mst where
  id : Int
  zo : Int
structure Dcr where
  id : Int
  ki : Int
  ma : Int
  st : Int
  ra : Int
  fr : Int
  un : Int
  op : Int
  cl : Int
structure Sho where
  fl : Int
  ho : Bool
deriving DecidableEq
structure Trn where
  at' : Int
  fl : Int
  ho : Bool
deriving DecidableEq
structure Tun where
  st : Int
  si : Int
  nm : List UInt8
structure Sal where
  at' : Int
  gu : Int
  ga : Int
structure Hrs where
  op : Int
  cl : Int
  d0 : Bool
  d1 : Bool
  d2 : Bool
  d3 : Bool
  d4 : Bool
  d5 : Bool
  d6 : Bool
def encM (x : Mst) : List AV := [I x.id, I x.zo]
def encD (x : Dcr) : List AV := [I x.id, U x.ki, I x.ma, I x.st, I x.ra, I x.fr, I x.un, I x.op, I x.cl]
def encT (x : Trn) : List AV := [I x.at', I x.fl, Bo x.ho]
def encU (x : Tun) : List AV := [I x.st, I x.si, .str x.nm]
def encSv (x : Sal) : List AV := [I x.at', I x.gu, I x.ga]
def encNum (x : Int) : List AV := [I x]
theorem eM : EncOk encM 2 := ⟨fun _ => rfl, fun x y h => by cases x; cases y; simp [encM] at h; simp [h], fun _ _ => rfl, fun _ _ => rfl, fun _ => rfl⟩
theorem eD : EncOk encD 9 := ⟨fun _ => rfl, fun x y h => by cases x; cases y; simp [encD] at h; simp [h], fun _ _ => rfl, fun _ _ => rfl, fun _ => rfl⟩
theorem eT : EncOk encT 3 := ⟨fun _ => rfl, fun x y h => by cases x; cases y; simp [encT] at h; simp [h], fun _ _ => rfl, fun _ _ => rfl, fun _ => rfl⟩
theorem eU : EncOk encU 3 := ⟨fun _ => rfl, fun x y h => by cases x; cases y; simp [encU] at h; simp [h], fun _ _ => rfl, fun _ _ => rfl, fun _ => rfl⟩
theorem eSv : EncOk encSv 3 := ⟨fun _ => rfl, fun x y h => by cases x; cases y; simp [encSv] at h; simp [h], fun _ _ => rfl, fun _ _ => rfl, fun _ => rfl⟩
theorem eNum : EncOk encNum 1 := ⟨fun _ => rfl, fun x y h => by simpa [encNum] using h, fun _ _ => rfl, fun _ _ => rfl, fun _ => rfl⟩
/-! What is told of every datum. -/
def i64 (n : Int) : Prop := -9223372036854775808 ≤ n ∧ n ≤ 9223372036854775807
def okM (x : Mst) : Prop := i64 x.id ∧ i64 x.zo
def okD (x : Dcr) : Prop := i64 x.id ∧ (0 ≤ x.ki ∧ x.ki ≤ 255) ∧ i64 x.ma ∧ i64 x.st ∧ i64 x.ra ∧ i64 x.fr ∧ i64 x.un ∧ i64 x.op ∧ i64 x.cl
def okU (x : Tun) : Prop := i64 x.st ∧ i64 x.si ∧ x.nm.length ≤ 9223372036854775807
theorem wrap_id {x : Int} (h1 : -9223372036854775808 ≤ x) (h2 : x ≤ 9223372036854775807) : IntKind.i64.wrap x = x := by
  simp [IntKind.wrap, IntKind.signed, IntKind.bits]
  omega
end Go.Ev
/-! TD6 -/
set_option linter.unusedVariables false
namespace Go.Ev
theorem noHL_rep (n k : Nat) : noHL n (List.replicate k X) = true := by
  induction k with
  | zero => rfl
  | succ k ih => simp [List.replicate_succ, noHL, noH, ih]
theorem dt {p : Prop} [Decidable p] (h : p) : decide p = true := decide_eq_true h
theorem df {p : Prop} [Decidable p] (h : ¬ p) : decide p = false := decide_eq_false h
section
variable {α : Type} {enc : α → List AV} {sz : Nat} (E : EncOk enc sz) {xs : List α} {k : Nat}
include E
theorem EncOk.gl : decide (xs.length * sz = (encL enc xs).length) = true := dt (E.lenL xs).symm
theorem EncOk.gd (hk : k < xs.length) : decide (sz ≤ (List.drop (k * sz) (encL enc xs)).length) = true := dt (E.dl hk)
theorem EncOk.g0 (hk : k < xs.length) (h : 0 < sz) : decide (0 < (List.drop (k * sz) (encL enc xs)).length) = true := dt (Nat.lt_of_lt_of_le h (E.dl hk))
theorem EncOk.gf (hk : k < xs.length) (f : Nat) (hf : f < sz) : decide (0 < (List.drop f (List.drop (k * sz) (encL enc xs))).length) = true := dt (by have := E.dl hk; rw [List.length_drop]; omega)
end
theorem M_like (x : Mst) : like [I (0 : Int), I (0 : Int)] (encM x) = true := rfl
theorem M_lk0 (x : Mst) : likeOk (AV.ofVal (Value.int IntKind.i64 (0 : Int))) ((encM x).getD 0 X) = true := rfl
theorem M_c0 (x : Mst) : cI (encM x) 0 = x.id := rfl
theorem M_lk1 (x : Mst) : likeOk (AV.ofVal (Value.int IntKind.i64 (0 : Int))) ((encM x).getD 1 X) = true := rfl
theorem M_c1 (x : Mst) : cI (encM x) 1 = x.zo := rfl
theorem D_like (x : Dcr) : like [I (0 : Int), U (0 : Int), I (0 : Int), I (0 : Int), I (0 : Int), I (0 : Int), I (0 : Int), I (0 : Int), I (0 : Int)] (encD x) = true := rfl
theorem D_lk0 (x : Dcr) : likeOk (AV.ofVal (Value.int IntKind.i64 (0 : Int))) ((encD x).getD 0 X) = true := rfl
theorem D_c0 (x : Dcr) : cI (encD x) 0 = x.id := rfl
theorem D_lk1 (x : Dcr) : likeOk (AV.ofVal (Value.int IntKind.u8 (0 : Int))) ((encD x).getD 1 X) = true := rfl
theorem D_c1 (x : Dcr) : cI (encD x) 1 = x.ki := rfl
theorem D_lk2 (x : Dcr) : likeOk (AV.ofVal (Value.int IntKind.i64 (0 : Int))) ((encD x).getD 2 X) = true := rfl
theorem D_c2 (x : Dcr) : cI (encD x) 2 = x.ma := rfl
theorem D_lk3 (x : Dcr) : likeOk (AV.ofVal (Value.int IntKind.i64 (0 : Int))) ((encD x).getD 3 X) = true := rfl
theorem D_c3 (x : Dcr) : cI (encD x) 3 = x.st := rfl
theorem D_lk4 (x : Dcr) : likeOk (AV.ofVal (Value.int IntKind.i64 (0 : Int))) ((encD x).getD 4 X) = true := rfl
theorem D_c4 (x : Dcr) : cI (encD x) 4 = x.ra := rfl
theorem D_lk5 (x : Dcr) : likeOk (AV.ofVal (Value.int IntKind.i64 (0 : Int))) ((encD x).getD 5 X) = true := rfl
theorem D_c5 (x : Dcr) : cI (encD x) 5 = x.fr := rfl
theorem D_lk6 (x : Dcr) : likeOk (AV.ofVal (Value.int IntKind.i64 (0 : Int))) ((encD x).getD 6 X) = true := rfl
theorem D_c6 (x : Dcr) : cI (encD x) 6 = x.un := rfl
theorem D_lk7 (x : Dcr) : likeOk (AV.ofVal (Value.int IntKind.i64 (0 : Int))) ((encD x).getD 7 X) = true := rfl
theorem D_c7 (x : Dcr) : cI (encD x) 7 = x.op := rfl
theorem D_lk8 (x : Dcr) : likeOk (AV.ofVal (Value.int IntKind.i64 (0 : Int))) ((encD x).getD 8 X) = true := rfl
theorem D_c8 (x : Dcr) : cI (encD x) 8 = x.cl := rfl
end Go.Ev
/-! TN -/
set_option linter.unusedVariables false
namespace Go.Ev
/-! Timelines: plain. -/
def Trn.sh (x : Trn) : Sho := ⟨x.fl, x.ho⟩
/-! The minutes of all shows. -/
end Go.Ev
