/- Contracts of functions of the program and of the reference. -/
import Derived.Test.YtdpfgjljehajbaaGreatDoorK1
set_option linter.unusedVariables false
set_option linter.unusedSimpArgs false
/-! TD5 -/
set_option linter.unusedVariables false
namespace Go.Ev
/-! The data of the honours' statements. -/
/-- A type whose values are laid in sz cells. -/
structure EncOk {α : Type} (enc : α → List AV) (sz : Nat) : Prop where
  len : ∀ x, (enc x).length = sz
  inj : ∀ x y, enc x = enc y → x = y
  noH : ∀ n x, noHL n (enc x) = true
  sc : ∀ n x, scrubL n (enc x) = enc x
  one : ∀ x, (enc x).all AV.one = true
def encL {α : Type} (enc : α → List AV) : List α → List AV
  | [] => []
  | x :: l => enc x ++ encL enc l
theorem noHL_append (n : Nat) : ∀ l m : List AV, noHL n (l ++ m) = (noHL n l && noHL n m)
  | [], m => by simp [noHL]
  | a :: l, m => by simp [noHL, noHL_append n l m, Bool.and_assoc]
theorem scrubL_append (n : Nat) : ∀ l m : List AV, scrubL n (l ++ m) = scrubL n l ++ scrubL n m
  | [], m => by simp [scrubL]
  | a :: l, m => by simp [scrubL, scrubL_append n l m]
theorem el_drop (l : List AV) (a b n : Nat) : el (l.drop a) b n = el l (a + b) n := by unfold el; rw [List.drop_drop]
section
variable {α : Type} {enc : α → List AV} {sz : Nat} (E : EncOk enc sz)
include E
theorem EncOk.lenL : ∀ l : List α, (encL enc l).length = l.length * sz
  | [] => by simp [encL]
  | t :: l => by simp only [encL, List.length_append, E.len, EncOk.lenL l, List.length_cons]; rw [Nat.succ_mul]; omega
theorem EncOk.noHL' (n : Nat) : ∀ l : List α, noHL n (encL enc l) = true
  | [] => rfl
  | t :: l => by simp [encL, noHL_append, E.noH n t, EncOk.noHL' n l]
theorem EncOk.scL (n : Nat) : ∀ l : List α, scrubL n (encL enc l) = encL enc l
  | [] => rfl
  | t :: l => by simp [encL, scrubL_append, E.sc n t, EncOk.scL n l]
theorem EncOk.oneL : ∀ l : List α, (encL enc l).all AV.one = true
  | [] => rfl
  | t :: l => by rw [encL, List.all_append, E.one, EncOk.oneL l]; rfl
theorem EncOk.injL (h0 : 0 < sz) : ∀ l m : List α, encL enc l = encL enc m → l = m
  | [], [], h => rfl
  | [], t :: m, h => by have := congrArg List.length h; simp [encL, E.len] at this; omega
  | t :: l, [], h => by have := congrArg List.length h; simp [encL, E.len] at this; omega
  | s :: l, t :: m, h => by
    simp only [encL] at h
    have := List.append_inj h (by rw [E.len, E.len])
    rw [E.inj s t this.1, EncOk.injL h0 l m this.2]
theorem EncOk.dropL (l : List α) (k : Nat) : (encL enc l).drop (k * sz) = encL enc (l.drop k) := by
  induction k generalizing l with
  | zero => simp
  | succ k ih =>
    cases l with
    | nil => simp [encL]
    | cons x l =>
      rw [encL, Nat.succ_mul, Nat.add_comm, ← List.drop_drop, List.drop_left' (E.len x), ih]
      rfl
/-- An element. -/
theorem EncOk.get {l : List α} {k : Nat} {x : α} (h : l[k]? = some x) : el (encL enc l) (k * sz) sz = enc x := by
  unfold el
  rw [E.dropL]
  have hk := (List.getElem?_eq_some_iff.1 h).1
  rw [List.drop_eq_getElem_cons hk, encL, List.take_append_of_le_length (by rw [E.len]; exact Nat.le_refl _), List.take_of_length_le (by rw [E.len]; exact Nat.le_refl _)]
  rw [(List.getElem?_eq_some_iff.1 h).2]
theorem EncOk.el {l : List α} {k : Nat} {x : α} (h : l[k]? = some x) : Go.Ev.el (List.drop (k * sz) (encL enc l)) 0 sz = enc x := by rw [el_drop]; exact E.get h
theorem EncOk.getD {l : List α} {k : Nat} {x : α} (h : l[k]? = some x) (f : Nat) (hf : f < sz) : (List.drop (k * sz) (encL enc l)).getD f .bad = (enc x).getD f .bad := by
  have hk := (List.getElem?_eq_some_iff.1 h).1
  rw [E.dropL, List.drop_eq_getElem_cons hk, encL, (List.getElem?_eq_some_iff.1 h).2, List.getD_eq_getElem?_getD, List.getElem?_append_left (by rw [E.len]; exact hf), List.getD_eq_getElem?_getD]
theorem EncOk.elf {l : List α} {k : Nat} {x : α} (h : l[k]? = some x) (f n : Nat) : Go.Ev.el (List.drop f (List.drop (k * sz) (encL enc l))) 0 n = ((enc x ++ encL enc (l.drop (k + 1))).drop f).take n := by
  have hk := (List.getElem?_eq_some_iff.1 h).1
  unfold Go.Ev.el
  rw [E.dropL, List.drop_eq_getElem_cons hk, encL, (List.getElem?_eq_some_iff.1 h).2, List.drop_zero]
theorem EncOk.dl {l : List α} {k : Nat} (hk : k < l.length) : sz ≤ ((encL enc l).drop (k * sz)).length := by
  rw [List.length_drop, E.lenL]
  have : (k + 1) * sz ≤ l.length * sz := Nat.mul_le_mul_right _ hk
  rw [Nat.succ_mul] at this
  omega
theorem EncOk.cI {l : List α} {k : Nat} {x : α} (h : l[k]? = some x) (f : Nat) (hf : f < sz) : Go.Ev.cI (List.drop f (List.drop (k * sz) (encL enc l))) 0 = Go.Ev.cI (enc x) f := by
  unfold Go.Ev.cI
  rw [List.getD_eq_getElem?_getD, List.getElem?_drop, Nat.add_zero, ← List.getD_eq_getElem?_getD, E.getD h f hf]
theorem EncOk.cI0 {l : List α} {k : Nat} {x : α} (h : l[k]? = some x) (hf : 0 < sz) : Go.Ev.cI (List.drop (k * sz) (encL enc l)) 0 = Go.Ev.cI (enc x) 0 := by
  unfold Go.Ev.cI
  rw [E.getD h 0 hf]
theorem EncOk.cB {l : List α} {k : Nat} {x : α} (h : l[k]? = some x) (f : Nat) (hf : f < sz) : Go.Ev.cB (List.drop f (List.drop (k * sz) (encL enc l))) 0 = Go.Ev.cB (enc x) f := by
  unfold Go.Ev.cB
  rw [List.getD_eq_getElem?_getD, List.getElem?_drop, Nat.add_zero, ← List.getD_eq_getElem?_getD, E.getD h f hf]
theorem EncOk.cS {l : List α} {k : Nat} {x : α} (h : l[k]? = some x) (f : Nat) (hf : f < sz) : Go.Ev.cS (List.drop f (List.drop (k * sz) (encL enc l))) 0 = Go.Ev.cS (enc x) f := by
  unfold Go.Ev.cS
  rw [List.getD_eq_getElem?_getD, List.getElem?_drop, Nat.add_zero, ← List.getD_eq_getElem?_getD, E.getD h f hf]
theorem EncOk.ld {l : List α} {k : Nat} {x : α} (h : l[k]? = some x) (f : Nat) (hf : f < sz) : (List.drop f (List.drop (k * sz) (encL enc l))).getD 0 .bad = (enc x).getD f .bad := by
  rw [List.getD_eq_getElem?_getD, List.getElem?_drop, Nat.add_zero, ← List.getD_eq_getElem?_getD, E.getD h f hf]
theorem EncOk.ld0 {l : List α} {k : Nat} {x : α} (h : l[k]? = some x) (hf : 0 < sz) : (List.drop (k * sz) (encL enc l)).getD 0 .bad = (enc x).getD 0 .bad := E.getD h 0 hf
end
theorem drop_cons {α : Type} {l : List α} {i : Nat} (h : i < l.length) : ∃ x, l[i]? = some x ∧ l.drop i = x :: l.drop (i + 1) :=
  ⟨l[i], List.getElem?_eq_getElem h, List.drop_eq_getElem_cons h⟩
theorem encL_app {α : Type} (enc : α → List AV) : ∀ l m : List α, encL enc (l ++ m) = encL enc l ++ encL enc m
  | [], m => rfl
  | x :: l, m => by simp [encL, encL_app enc l m]

open Classical in
/-- A function on what is encoded. -/
noncomputable def onEnc {α β : Type} (enc : α → List AV) (f : α → β) (d : β) (l : List AV) : β := if h : ∃ a, l = enc a then f h.choose else d
theorem onEnc_eq {α β : Type} {enc : α → List AV} (hinj : ∀ a b, enc a = enc b → a = b) (f : α → β) (d : β) (a : α) : onEnc enc f d (enc a) = f a := by
  have h : ∃ b, enc a = enc b := ⟨a, rfl⟩
  unfold onEnc
  rw [dif_pos h, ← hinj _ _ h.choose_spec]
theorem EncOk.on {α β : Type} {enc : α → List AV} {sz : Nat} (E : EncOk enc sz) (h0 : 0 < sz) (f : List α → β) (d : β) (a : List α) : onEnc (encL enc) f d (encL enc a) = f a := onEnc_eq (E.injL h0) f d a

structure Mst where
  id : Int
  zo : Int
structure Dcr where
  id : Int
  ki : Int
  ma : Int
  st : Int
  ra : Int
  fr : Int
  un : Int
  op : Int
  cl : Int
structure Sho where
  fl : Int
  ho : Bool
deriving DecidableEq
structure Trn where
  at' : Int
  fl : Int
  ho : Bool
deriving DecidableEq
structure Tun where
  st : Int
  si : Int
  nm : List UInt8
structure Sal where
  at' : Int
  gu : Int
  ga : Int
structure Hrs where
  op : Int
  cl : Int
  d0 : Bool
  d1 : Bool
  d2 : Bool
  d3 : Bool
  d4 : Bool
  d5 : Bool
  d6 : Bool
def encM (x : Mst) : List AV := [I x.id, I x.zo]
def encD (x : Dcr) : List AV := [I x.id, U x.ki, I x.ma, I x.st, I x.ra, I x.fr, I x.un, I x.op, I x.cl]
def encT (x : Trn) : List AV := [I x.at', I x.fl, Bo x.ho]
def encU (x : Tun) : List AV := [I x.st, I x.si, .str x.nm]
def encS (x : Sal) : List AV := [I x.at', I x.gu, I x.ga]
def encNum (x : Int) : List AV := [I x]
theorem eM : EncOk encM 2 := ⟨fun _ => rfl, fun x y h => by cases x; cases y; simp [encM] at h; simp [h], fun _ _ => rfl, fun _ _ => rfl, fun _ => rfl⟩
theorem eD : EncOk encD 9 := ⟨fun _ => rfl, fun x y h => by cases x; cases y; simp [encD] at h; simp [h], fun _ _ => rfl, fun _ _ => rfl, fun _ => rfl⟩
theorem eT : EncOk encT 3 := ⟨fun _ => rfl, fun x y h => by cases x; cases y; simp [encT] at h; simp [h], fun _ _ => rfl, fun _ _ => rfl, fun _ => rfl⟩
theorem eU : EncOk encU 3 := ⟨fun _ => rfl, fun x y h => by cases x; cases y; simp [encU] at h; simp [h], fun _ _ => rfl, fun _ _ => rfl, fun _ => rfl⟩
theorem eS : EncOk encS 3 := ⟨fun _ => rfl, fun x y h => by cases x; cases y; simp [encS] at h; simp [h], fun _ _ => rfl, fun _ _ => rfl, fun _ => rfl⟩
theorem eNum : EncOk encNum 1 := ⟨fun _ => rfl, fun x y h => by simpa [encNum] using h, fun _ _ => rfl, fun _ _ => rfl, fun _ => rfl⟩
/-! What is told of every datum. -/
def i64 (n : Int) : Prop := -9223372036854775808 ≤ n ∧ n ≤ 9223372036854775807
def okT (x : Trn) : Prop := i64 x.at' ∧ i64 x.fl
theorem wrap_id {x : Int} (h1 : -9223372036854775808 ≤ x) (h2 : x ≤ 9223372036854775807) : IntKind.i64.wrap x = x := by
  simp [IntKind.wrap, IntKind.signed, IntKind.bits]
  omega
end Go.Ev
/-! TD6 -/
set_option linter.unusedVariables false
namespace Go.Ev
theorem noHL_rep (n k : Nat) : noHL n (List.replicate k X) = true := by
  induction k with
  | zero => rfl
  | succ k ih => simp [List.replicate_succ, noHL, noH, ih]
theorem getD_of {α : Type} {l : List α} {i : Nat} {x d : α} (h : l[i]? = some x) : l.getD i d = x := by rw [List.getD_eq_getElem?_getD, h]; rfl
theorem dt {p : Prop} [Decidable p] (h : p) : decide p = true := decide_eq_true h
theorem df {p : Prop} [Decidable p] (h : ¬ p) : decide p = false := decide_eq_false h
section
variable {α : Type} {enc : α → List AV} {sz : Nat} (E : EncOk enc sz) {xs : List α} {k : Nat}
include E
theorem EncOk.gl : decide (xs.length * sz = (encL enc xs).length) = true := dt (E.lenL xs).symm
theorem EncOk.gd (hk : k < xs.length) : decide (sz ≤ (List.drop (k * sz) (encL enc xs)).length) = true := dt (E.dl hk)
theorem EncOk.g0 (hk : k < xs.length) (h : 0 < sz) : decide (0 < (List.drop (k * sz) (encL enc xs)).length) = true := dt (Nat.lt_of_lt_of_le h (E.dl hk))
theorem EncOk.gf (hk : k < xs.length) (f : Nat) (hf : f < sz) : decide (0 < (List.drop f (List.drop (k * sz) (encL enc xs))).length) = true := dt (by have := E.dl hk; rw [List.length_drop]; omega)
theorem EncOk.gfn (hk : k < xs.length) (f n : Nat) (hf : f + n ≤ sz) : decide (n ≤ (List.drop f (List.drop (k * sz) (encL enc xs))).length) = true := dt (by have := E.dl hk; rw [List.length_drop]; omega)
end
theorem T_like (x : Trn) : like [I (0 : Int), I (0 : Int), Bo false] (encT x) = true := rfl
theorem T_lk0 (x : Trn) : likeOk (AV.ofVal (Value.int IntKind.i64 (0 : Int))) ((encT x).getD 0 X) = true := rfl
theorem T_c0 (x : Trn) : cI (encT x) 0 = x.at' := rfl
theorem T_lk1 (x : Trn) : likeOk (AV.ofVal (Value.int IntKind.i64 (0 : Int))) ((encT x).getD 1 X) = true := rfl
theorem T_c1 (x : Trn) : cI (encT x) 1 = x.fl := rfl
theorem T_lk2 (x : Trn) : likeOk (AV.ofVal (Value.bool false)) ((encT x).getD 2 X) = true := rfl
theorem T_c2 (x : Trn) : cB (encT x) 2 = x.ho := rfl
theorem T_el1 {xs : List Trn} {k : Nat} {x : Trn} (h : xs[k]? = some x) : el (List.drop 1 (List.drop (k * 3) (encL encT xs))) 0 2 = [I x.fl, Bo x.ho] := (eT.elf h 1 2).trans rfl
theorem H_like (a : Int) (b : Bool) : like [I (0 : Int), Bo false] [I a, Bo b] = true := rfl
theorem H_c0 (a : Int) (b : Bool) : cI [I a, Bo b] 0 = a := rfl
theorem H_c1 (a : Int) (b : Bool) : cB [I a, Bo b] 1 = b := rfl
end Go.Ev
/-! TN -/
set_option linter.unusedVariables false
namespace Go.Ev
/-! Timelines: plain. -/
def minutedB (n : Int) : Bool := decide (0 ≤ n) && decide (n ≤ 144001439)
def rangedB (f u : Int) : Bool := decide (0 ≤ f) && decide (f < u) && decide (u ≤ 144001440)
def Trn.sh (x : Trn) : Sho := ⟨x.fl, x.ho⟩
def sameS (x y : Trn) : Bool := decide (x.fl = y.fl) && (x.ho == y.ho)
theorem sameS_iff (x y : Trn) : sameS x y = true ↔ x.sh = y.sh := by
  simp [sameS, Trn.sh]
def zTrn : Trn := ⟨0, 0, false⟩
def nrmF : Option Trn → List Trn → Bool
  | _, [] => true
  | none, t :: l => minutedB t.at' && nrmF (some t) l
  | some p, t :: l => minutedB t.at' && (decide (p.at' < t.at') && !sameS p t) && nrmF (some t) l
def nrmB (l : List Trn) : Bool := nrmF none l && decide (0 < l.length)
def chkT (f u : Int) (l : List Trn) : Bool := rangedB f u && nrmB l && decide ((l.getD 0 zTrn).at' = f) && decide ((l.getD (l.length - 1) zTrn).at' < u)
/-- How many minutes show s. -/
def spS (u : Int) (s : Sho) : List Trn → Int
  | [] => 0
  | [t] => if t.sh = s then u - t.at' else 0
  | t :: t' :: l => (if t.sh = s then t'.at' - t.at' else 0) + spS u s (t' :: l)
def spentV (l : List Trn) (u : Int) (s : Sho) : Int := if l.length = 0 then 0 else if chkT (l.getD 0 zTrn).at' u l then spS u s l else 0
def joinE (a b : List Trn) : Int := if nrmB a && nrmB b then (if (a.getD (a.length - 1) zTrn).at' ≥ (b.getD 0 zTrn).at' then 7 else 0) else 1
def joinL (a b : List Trn) : List Trn := if joinE a b = 0 then (if sameS (a.getD (a.length - 1) zTrn) (b.getD 0 zTrn) then a ++ b.drop 1 else a ++ b) else []

theorem nrmF_drop : ∀ {l : List Trn} (p : Option Trn) (i : Nat), nrmF p l = true → nrmF (if i = 0 then p else l[i - 1]?) (l.drop i) = true
  | l, p, 0, h => by simpa using h
  | [], p, i + 1, h => by simp [nrmF]
  | t :: l, p, i + 1, h => by
    have h1 : nrmF (some t) l = true := by cases p <;> simp only [nrmF, Bool.and_eq_true] at h <;> exact h.2
    have := nrmF_drop (some t) i h1
    rw [if_neg (by omega), List.drop_succ_cons, Nat.add_sub_cancel]
    cases i with
    | zero => simpa using this
    | succ i => simpa using this
theorem nrmF_min : ∀ {l : List Trn} (p : Option Trn), nrmF p l = true → ∀ x ∈ l, 0 ≤ x.at' ∧ x.at' ≤ 144001439
  | [], p, h, x, hx => by simp at hx
  | t :: l, p, h, x, hx => by
    have h1 : minutedB t.at' = true ∧ nrmF (some t) l = true := by cases p <;> simp only [nrmF, Bool.and_eq_true] at h <;> first | exact h | exact ⟨h.1.1, h.2⟩
    rcases List.mem_cons.1 hx with rfl | hx
    · simpa [minutedB] using h1.1
    · exact nrmF_min _ h1.2 x hx
theorem nrmF_step {l : List Trn} {p : Option Trn} (h : nrmF p l = true) {i : Nat} {x y : Trn} (hx : l[i]? = some x) (hy : l[i + 1]? = some y) : x.at' < y.at' ∧ sameS x y = false := by
  have hi := (List.getElem?_eq_some_iff.1 hy).1
  have h1 := nrmF_drop p (i + 1) h
  rw [if_neg (by omega), Nat.add_sub_cancel, hx, List.drop_eq_getElem_cons hi, (List.getElem?_eq_some_iff.1 hy).2] at h1
  simp only [nrmF, Bool.and_eq_true, decide_eq_true_eq, Bool.not_eq_true'] at h1
  exact h1.1.2
theorem spS_bd : ∀ {l : List Trn} {p : Option Trn} (u : Int) (s : Sho), nrmF p l = true → (l.getD (l.length - 1) zTrn).at' < u → l ≠ [] → 0 ≤ spS u s l ∧ spS u s l ≤ u - (l.getD 0 zTrn).at'
  | [], p, u, s, h, hu, hn => (hn rfl).elim
  | [t], p, u, s, h, hu, hn => by
    simp only [spS, List.length_singleton, Nat.sub_self, List.getD_cons_zero] at hu ⊢
    split <;> omega
  | t :: t' :: l, p, u, s, h, hu, hn => by
    have h1 : nrmF (some t) (t' :: l) = true := by cases p <;> simp only [nrmF, Bool.and_eq_true] at h ⊢ <;> exact h.2
    have h2 := nrmF_step (i := 0) h (x := t) (y := t') rfl rfl
    have ih := spS_bd u s h1 (by simpa using hu) (by simp)
    simp only [List.getD_cons_zero, spS] at ih ⊢
    split <;> omega
theorem spS_last : ∀ (l : List Trn) (u v : Int) (s : Sho), l ≠ [] → spS u s l = spS v s l + (if (l.getD (l.length - 1) zTrn).sh = s then u - v else 0)
  | [], u, v, s, hn => (hn rfl).elim
  | [t], u, v, s, hn => by
    simp only [spS, List.length_singleton, Nat.sub_self, List.getD_cons_zero]
    split <;> omega
  | t :: t' :: l, u, v, s, hn => by
    have ih := spS_last (t' :: l) u v s (by simp)
    simp only [spS]
    have e : (t :: t' :: l).getD ((t :: t' :: l).length - 1) zTrn = (t' :: l).getD ((t' :: l).length - 1) zTrn := by simp
    rw [e, ih]
    omega
theorem spS_app : ∀ (a : List Trn) (t : Trn) (b : List Trn) (u : Int) (s : Sho), a ≠ [] → spS u s (a ++ t :: b) = spS t.at' s a + spS u s (t :: b)
  | [], t, b, u, s, hn => (hn rfl).elim
  | [x], t, b, u, s, hn => by simp [spS]
  | x :: y :: a, t, b, u, s, hn => by
    have ih := spS_app (y :: a) t b u s (by simp)
    simp only [List.cons_append, spS] at ih ⊢
    rw [ih]
    omega
theorem sameS_lem {x y : Trn} (h : sameS x y = true) : x.sh = y.sh := (sameS_iff x y).1 h
/-- Joined timelines add. -/
theorem spS_join (a b : List Trn) (u : Int) (s : Sho) (ha : a ≠ []) (hb : b ≠ []) : spS u s (if sameS (a.getD (a.length - 1) zTrn) (b.getD 0 zTrn) then a ++ b.drop 1 else a ++ b) = spS (b.getD 0 zTrn).at' s a + spS u s b := by
  cases b with
  | nil => exact (hb rfl).elim
  | cons t b =>
    split
    · rename_i h0
      have hh := sameS_lem h0
      rw [List.getD_cons_zero] at hh
      clear h0
      simp only [List.drop_succ_cons, List.drop_zero, List.getD_cons_zero]
      cases b with
      | nil =>
        rw [List.append_nil, spS_last a u t.at' s ha, hh]
        rfl
      | cons t' b =>
        rw [spS_app a t' b u s ha, spS_last a t'.at' t.at' s ha, hh]
        simp only [spS]
        omega
    · simpa using spS_app a t b u s ha
/-- A joined timeline is one. -/
theorem nrmF_app : ∀ {a b : List Trn} {p : Option Trn}, nrmF p a = true → a ≠ [] → nrmF (some (a.getD (a.length - 1) zTrn)) b = true → nrmF p (a ++ b) = true
  | [], b, p, h, hn, hb => (hn rfl).elim
  | [t], b, p, h, hn, hb => by
    have hb' : nrmF (some t) b = true := by simpa using hb
    cases p <;> simp only [List.cons_append, List.nil_append, nrmF, Bool.and_eq_true, Bool.and_true] at h ⊢
    · exact ⟨h, hb'⟩
    · exact ⟨h, hb'⟩
  | t :: t' :: a, b, p, h, hn, hb => by
    have h1 : nrmF (some t) (t' :: a) = true := by cases p <;> simp only [nrmF, Bool.and_eq_true] at h ⊢ <;> exact h.2
    have ih := nrmF_app (b := b) h1 (by simp) (by simpa using hb)
    cases p <;> simp only [List.cons_append] at ih ⊢ <;> unfold nrmF at h ⊢ <;> simp only [Bool.and_eq_true] at h ⊢
    · exact ⟨h.1, ih⟩
    · exact ⟨h.1, ih⟩
theorem nrm_cons {t : Trn} {b : List Trn} {q : Trn} (h : nrmF none (t :: b) = true) (h1 : q.at' < t.at') (h2 : sameS q t = false) : nrmF (some q) (t :: b) = true := by
  simp only [nrmF, Bool.and_eq_true] at h ⊢
  exact ⟨⟨h.1, by simpa using h1, by rw [h2]; rfl⟩, h.2⟩
theorem nrm_skip {t : Trn} {b : List Trn} {q : Trn} (h : nrmF none (t :: b) = true) (h1 : q.at' < t.at') (h2 : sameS q t = true) : nrmF (some q) b = true := by
  have h := (Bool.and_eq_true _ _ ▸ (by simpa only [nrmF] using h) : minutedB t.at' = true ∧ nrmF (some t) b = true).2
  cases b with
  | nil => rfl
  | cons t' b =>
    simp only [nrmF, Bool.and_eq_true, decide_eq_true_eq, Bool.not_eq_true'] at h ⊢
    refine ⟨⟨h.1.1, by omega, ?_⟩, h.2⟩
    have e := sameS_lem h2
    have h3 := h.1.2.2
    rw [Bool.eq_false_iff, ne_eq, sameS_iff] at h3 ⊢
    rwa [e]
theorem join_nrm {a b : List Trn} (ha : nrmB a = true) (hb : nrmB b = true) (hlt : (a.getD (a.length - 1) zTrn).at' < (b.getD 0 zTrn).at') : nrmB (if sameS (a.getD (a.length - 1) zTrn) (b.getD 0 zTrn) then a ++ b.drop 1 else a ++ b) = true := by
  simp only [nrmB, Bool.and_eq_true, decide_eq_true_eq] at ha hb
  have ha' : a ≠ [] := by intro e; rw [e] at ha; simp at ha
  cases b with
  | nil => simp at hb
  | cons t b =>
    rw [List.getD_cons_zero] at hlt ⊢
    unfold nrmB
    split
    · rename_i h
      rw [List.drop_succ_cons, List.drop_zero, nrmF_app ha.1 ha' (nrm_skip hb.1 hlt h)]
      simp only [Bool.true_and, decide_eq_true_eq, List.length_append]; omega
    · rename_i h
      rw [nrmF_app ha.1 ha' (nrm_cons hb.1 hlt (by simpa using h))]
      simp only [Bool.true_and, decide_eq_true_eq, List.length_append]; omega
/-! The minutes of all shows. -/
def sumS (u : Int) (l : List Trn) : List Sho → Int
  | [] => 0
  | s :: S => spS u s l + sumS u l S
theorem sumS_app (u : Int) (l : List Trn) : ∀ S T : List Sho, sumS u l (S ++ T) = sumS u l S + sumS u l T
  | [], T => by simp [sumS]
  | s :: S, T => by simp only [List.cons_append, sumS, sumS_app u l S T]; omega
def oneS (d : Int) (x : Sho) : List Sho → Int
  | [] => 0
  | s :: S => (if x = s then d else 0) + oneS d x S
theorem oneS_not (d : Int) (x : Sho) : ∀ {S : List Sho}, x ∉ S → oneS d x S = 0
  | [], h => rfl
  | s :: S, h => by
    rw [List.mem_cons, not_or] at h
    simp only [oneS, if_neg h.1, oneS_not d x h.2]; omega
theorem oneS_in (d : Int) (x : Sho) : ∀ {S : List Sho}, S.Nodup → x ∈ S → oneS d x S = d
  | [], _, h => by simp at h
  | s :: S, hn, h => by
    rw [List.nodup_cons] at hn
    rcases List.mem_cons.1 h with rfl | h
    · simp only [oneS, if_pos, oneS_not d x hn.1]; simp
    · have : x ≠ s := fun e => hn.1 (e ▸ h)
      simp only [oneS, if_neg this, oneS_in d x hn.2 h]; omega
theorem sumS_one (u : Int) (t : Trn) : ∀ S : List Sho, sumS u [t] S = oneS (u - t.at') t.sh S
  | [] => rfl
  | s :: S => by simp only [sumS, oneS, spS, sumS_one u t S]
theorem sumS_cons (u : Int) (t t' : Trn) (l : List Trn) : ∀ S : List Sho, sumS u (t :: t' :: l) S = oneS (t'.at' - t.at') t.sh S + sumS u (t' :: l) S
  | [] => rfl
  | s :: S => by simp only [sumS, oneS, spS, sumS_cons u t t' l S]; omega
theorem sumS_all : ∀ (l : List Trn) (u : Int) (S : List Sho), S.Nodup → (∀ x ∈ l, x.sh ∈ S) → l ≠ [] → sumS u l S = u - (l.getD 0 zTrn).at'
  | [], u, S, hn, h, hl => (hl rfl).elim
  | [t], u, S, hn, h, hl => by rw [sumS_one, oneS_in _ _ hn (h t (by simp))]; rfl
  | t :: t' :: l, u, S, hn, h, hl => by
    rw [sumS_cons, oneS_in _ _ hn (h t (by simp)), sumS_all (t' :: l) u S hn (fun x hx => h x (List.mem_cons_of_mem _ hx)) (by simp)]
    simp only [List.getD_cons_zero]; omega
end Go.Ev
