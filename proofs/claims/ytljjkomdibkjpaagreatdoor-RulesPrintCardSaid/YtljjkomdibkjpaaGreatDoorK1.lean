/- Contracts of functions of the program and of the reference. -/
import Derived.Test.YtljjkomdibkjpaaGreatDoorE5
import Derived.Test.YtljjkomdibkjpaaGreatDoorCx
set_option linter.unusedVariables false
set_option linter.unusedSimpArgs false
/-! TB -/
set_option linter.unusedVariables false
set_option maxRecDepth 100000
namespace Go.Ev
abbrev I (n : Int) : AV := .int .i64 n
abbrev U (n : Int) : AV := .int .u8 n
abbrev Bo (b : Bool) : AV := .bool b
abbrev X : AV := .bad
abbrev rI (n : Int) : CR := .ret (.int .i64 n)
abbrev rB (b : Bool) : CR := .ret (.bool b)
end Go.Ev
namespace Go.Proofs
open Go Go.Ev
noncomputable def Tryz.B : Base := { P := Tryz.prog, gt := Tryz.gt, eqt := [28, 40, 42, 61], nat := natOf 169 203 150, hw := fun _ => none }
theorem Tryz.gtpB : GtPlain Tryz.B.c0 := by
  intro g l h
  simp only [Tryz.B, Base.c0, Tryz.gt] at h
  split at h <;> cases h <;> exact ⟨by kernel_rfl, by kernel_rfl⟩
theorem Tryz.bok : BaseOk Tryz.B where
  eqt := fun t h => by
    simp only [Tryz.B, List.contains_cons, List.contains_nil, Bool.or_false, Bool.or_eq_true, beq_iff_eq] at h
    rcases h with rfl | rfl | rfl | rfl <;> kernel_rfl
  codes := Tryz.c0ok.codes
  nat := Tryz.c0ok.nat
  mixed := Tryz.c0ok.mixed
  names := Tryz.c0ok.names
  gtp := Tryz.gtpB
  hw := fun g W h => by cases h
end Go.Proofs
/-! TD -/
set_option linter.unusedVariables false
namespace Go.Ev

/-! The data of the statements. -/
inductive Tst where
  | mk (op attr side n : Int) (of : List Tst)
def Tst.op : Tst → Int | .mk a _ _ _ _ => a
def Tst.attr : Tst → Int | .mk _ a _ _ _ => a
def Tst.side : Tst → Int | .mk _ _ a _ _ => a
def Tst.n : Tst → Int | .mk _ _ _ a _ => a
def Tst.of : Tst → List Tst | .mk _ _ _ _ a => a
mutual
def encT : Tst → List AV
  | .mk op attr side n of => [U op, U attr, U side, I n, .vs (encTs of) of.length .none]
def encTs : List Tst → List AV
  | [] => []
  | t :: l => encT t ++ encTs l
end
structure Rul where
  name : List UInt8
  rank : Int
  weight : Int
  t : Tst
def encR (x : Rul) : List AV := [.str x.name, I x.rank, I x.weight, U x.t.op, U x.t.attr, U x.t.side, I x.t.n, .vs (encTs x.t.of) x.t.of.length .none]
def encRs : List Rul → List AV
  | [] => []
  | x :: l => encR x ++ encRs l
structure Prf where
  cl : Int
  vi : Int
  ho : Bool
  de : Bool
  mo : Bool
  cr : Int
  le : Int
def encP (p : Prf) : List AV := [I p.cl, I p.vi, Bo p.ho, Bo p.de, Bo p.mo, I p.cr, I p.le]
theorem encT_eq (t : Tst) : encT t = [U t.op, U t.attr, U t.side, I t.n, .vs (encTs t.of) t.of.length .none] := by cases t; rfl
theorem encT_len (t : Tst) : (encT t).length = 5 := by cases t; rfl
theorem encTs_len : ∀ l : List Tst, (encTs l).length = l.length * 5
  | [] => rfl
  | t :: l => by simp only [encTs, List.length_append, encT_len, encTs_len l, List.length_cons]; omega
theorem encR_len (x : Rul) : (encR x).length = 8 := rfl
theorem encRs_len : ∀ l : List Rul, (encRs l).length = l.length * 8
  | [] => rfl
  | t :: l => by simp only [encRs, List.length_append, encR_len, encRs_len l, List.length_cons]; omega

def encTp (t : Tst) : List AV := [U t.op, U t.attr, U t.side, I t.n, .vs (encTs t.of) t.of.length .none]
theorem encTp_eq (t : Tst) : encTp t = encT t := (encT_eq t).symm
def elT (E : List AV) : List AV := [U (cI E 0), U (cI E 1), U (cI E 2), I (cI E 3), .vs (cL E 4) (cN E 4) (cT E 4)]
def elR (E : List AV) : List AV := [.str (cS E 0), I (cI E 1), I (cI E 2), U (cI E 3), U (cI E 4), U (cI E 5), I (cI E 6), .vs (cL E 7) (cN E 7) (cT E 7)]
def zT : List AV := [U 0, U 0, U 0, I 0, .vs [] 0 .zero]
def zR : List AV := [.str [], I 0, I 0, U 0, U 0, U 0, I 0, .vs [] 0 .zero]
theorem encT_w (x : Tst) : elT (encT x) = encT x := by cases x; rfl
theorem encT_like (x : Tst) : like zT (encT x) = true := by cases x; rfl
theorem encR_w (x : Rul) : elR (encR x) = encR x := rfl
theorem encR_like (x : Rul) : like zR (encR x) = true := rfl
/-- An element of elements that lie one behind the other. -/
theorem enc_get {α : Type} {enc : α → List AV} {encs : List α → List AV} {sz : Nat} (h0 : encs [] = []) (h1 : ∀ x l, encs (x :: l) = enc x ++ encs l) (hs : ∀ x, (enc x).length = sz) :
    ∀ (l : List α) (k : Nat) (x : α), l[k]? = some x → el (encs l) (k * sz) sz = enc x
  | [], k, x, h => by simp at h
  | y :: l, 0, x, h => by
    simp at h; subst h
    unfold el
    rw [h1, Nat.zero_mul, List.drop_zero, List.take_append_of_le_length (by rw [hs]; exact Nat.le_refl _), List.take_of_length_le (by rw [hs]; exact Nat.le_refl _)]
  | y :: l, k + 1, x, h => by
    have e : (k + 1) * sz = (enc y).length + k * sz := by rw [hs, Nat.succ_mul]; omega
    unfold el
    rw [h1, e, ← List.drop_drop, List.drop_left']
    · exact enc_get h0 h1 hs l k x (by simpa using h)
    · rfl
theorem encTs_get {l : List Tst} {k : Nat} {x : Tst} (h : l[k]? = some x) : el (encTs l) (k * 5) 5 = encT x :=
  enc_get (enc := encT) (encs := encTs) rfl (fun _ _ => rfl) encT_len l k x h
theorem encRs_get {l : List Rul} {k : Nat} {x : Rul} (h : l[k]? = some x) : el (encRs l) (k * 8) 8 = encR x :=
  enc_get (enc := encR) (encs := encRs) rfl (fun _ _ => rfl) encR_len l k x h
theorem el_drop (l : List AV) (a b n : Nat) : el (l.drop a) b n = el l (a + b) n := by unfold el; rw [List.drop_drop]
theorem encTs_el {l : List Tst} {k : Nat} {x : Tst} (h : l[k]? = some x) : el (List.drop (k * 5) (encTs l)) 0 5 = encT x := by rw [el_drop]; exact encTs_get h
theorem encRs_el {l : List Rul} {k : Nat} {x : Rul} (h : l[k]? = some x) : el (List.drop (k * 8) (encRs l)) 0 8 = encR x := by rw [el_drop]; exact encRs_get h
theorem encRs_elT {l : List Rul} {k : Nat} {x : Rul} (h : l[k]? = some x) : el (List.drop 3 (List.drop (k * 8) (encRs l))) 0 5 = encT x.t := by
  have := congrArg (List.drop 3) (encRs_get h)
  unfold el at *
  rw [List.drop_zero]
  rw [List.drop_take] at this
  rw [this, encR, encT_eq]; rfl
theorem enc_drop_len {l : List AV} {n sz k : Nat} (h : l.length = n * sz) (hk : k < n) : sz ≤ (l.drop (k * sz)).length := by
  rw [List.length_drop, h]
  have : (k + 1) * sz ≤ n * sz := Nat.mul_le_mul_right _ hk
  rw [Nat.succ_mul] at this
  omega

theorem noHL_append (n : Nat) : ∀ l m : List AV, noHL n (l ++ m) = (noHL n l && noHL n m)
  | [], m => by simp [noHL]
  | a :: l, m => by simp [noHL, noHL_append n l m, Bool.and_assoc]
theorem scrubL_append (n : Nat) : ∀ l m : List AV, scrubL n (l ++ m) = scrubL n l ++ scrubL n m
  | [], m => by simp [scrubL]
  | a :: l, m => by simp [scrubL, scrubL_append n l m]
mutual
theorem noH_encT (n : Nat) : ∀ t : Tst, noHL n (encT t) = true
  | .mk op attr side k of => by simp [encT, noHL, noH, noH_encTs n of]
theorem noH_encTs (n : Nat) : ∀ l : List Tst, noHL n (encTs l) = true
  | [] => rfl
  | t :: l => by simp [encTs, noHL_append, noH_encT n t, noH_encTs n l]
end
mutual
theorem sc_encT (n : Nat) : ∀ t : Tst, scrubL n (encT t) = encT t
  | .mk op attr side k of => by simp [encT, scrubL, scrub, Tok.scrub, sc_encTs n of]
theorem sc_encTs (n : Nat) : ∀ l : List Tst, scrubL n (encTs l) = encTs l
  | [] => rfl
  | t :: l => by simp [encTs, scrubL_append, sc_encT n t, sc_encTs n l]
end
theorem noH_encR (n : Nat) (x : Rul) : noHL n (encR x) = true := by simp [encR, noHL, noH, noH_encTs]
theorem noH_encRs (n : Nat) : ∀ l : List Rul, noHL n (encRs l) = true
  | [] => rfl
  | t :: l => by simp [encRs, noHL_append, noH_encR n t, noH_encRs n l]
theorem sc_encR (n : Nat) (x : Rul) : scrubL n (encR x) = encR x := by simp [encR, scrubL, scrub, Tok.scrub, sc_encTs]
theorem sc_encRs (n : Nat) : ∀ l : List Rul, scrubL n (encRs l) = encRs l
  | [] => rfl
  | t :: l => by simp [encRs, scrubL_append, sc_encR n t, sc_encRs n l]
theorem size_get {l : List Tst} {k : Nat} {x : Tst} (h : l[k]? = some x) : avSizeL (encT x) ≤ avSizeL (encTs l) := by
  induction l generalizing k with
  | nil => simp at h
  | cons y l ih =>
    simp only [encTs, avSizeL_append]
    cases k with
    | zero => simp at h; subst h; omega
    | succ k => have := ih (by simpa using h); omega

mutual
theorem encT_inj : ∀ (s t : Tst), encT s = encT t → s = t
  | .mk a b c d l, .mk a' b' c' d' l', h => by
    simp only [encT, List.cons.injEq, AV.int.injEq, AV.vs.injEq, and_true, true_and] at h
    obtain ⟨h1, h2, h3, h4, h5, h6⟩ := h
    rw [h1, h2, h3, h4, encTs_inj l l' h5]
theorem encTs_inj : ∀ (l m : List Tst), encTs l = encTs m → l = m
  | [], [], h => rfl
  | [], t :: m, h => by have := congrArg List.length h; simp [encTs, encT_len] at this; omega
  | t :: l, [], h => by have := congrArg List.length h; simp [encTs, encT_len] at this
  | s :: l, t :: m, h => by
    simp only [encTs] at h
    have := List.append_inj h (by rw [encT_len, encT_len])
    rw [encT_inj s t this.1, encTs_inj l m this.2]
end
theorem encR_inj {x y : Rul} (h : encR x = encR y) : x = y := by
  cases x with | mk n r w t => cases y with | mk n' r' w' t' =>
  cases t with | mk a b c d l => cases t' with | mk a' b' c' d' l' =>
  simp only [encR, Tst.op, Tst.attr, Tst.side, Tst.n, Tst.of, List.cons.injEq, AV.int.injEq, AV.str.injEq, AV.vs.injEq, and_true, true_and] at h
  obtain ⟨h1, h2, h3, h4, h5, h6, h7, h8, h9⟩ := h
  rw [h1, h2, h3, h4, h5, h6, h7, encTs_inj _ _ h8]
theorem encRs_inj : ∀ (l m : List Rul), encRs l = encRs m → l = m
  | [], [], h => rfl
  | [], t :: m, h => by have := congrArg List.length h; simp [encRs, encR_len] at this; omega
  | t :: l, [], h => by have := congrArg List.length h; simp [encRs, encR_len] at this
  | s :: l, t :: m, h => by
    simp only [encRs] at h
    have := List.append_inj h (by rw [encR_len, encR_len])
    rw [encR_inj this.1, encRs_inj l m this.2]

open Classical in
/-- A function on what is encoded. -/
noncomputable def onEnc {α β : Type} (enc : α → List AV) (f : α → β) (d : β) (l : List AV) : β := if h : ∃ a, l = enc a then f h.choose else d
theorem onEnc_eq {α β : Type} {enc : α → List AV} (hinj : ∀ a b, enc a = enc b → a = b) (f : α → β) (d : β) (a : α) : onEnc enc f d (enc a) = f a := by
  have h : ∃ b, enc a = enc b := ⟨a, rfl⟩
  unfold onEnc
  rw [dif_pos h, ← hinj _ _ h.choose_spec]

/-! What is told of every datum. -/
mutual
def wfT : Tst → Prop
  | .mk op attr side n of => 0 ≤ op ∧ op ≤ 255 ∧ 0 ≤ attr ∧ attr ≤ 255 ∧ 0 ≤ side ∧ side ≤ 255 ∧ -9223372036854775808 ≤ n ∧ n ≤ 9223372036854775807 ∧ of.length ≤ 9223372036854775807 ∧ wfTs of
def wfTs : List Tst → Prop
  | [] => True
  | t :: l => wfT t ∧ wfTs l
end
theorem wfTs_get : ∀ {l : List Tst} {k : Nat} {x : Tst}, wfTs l → l[k]? = some x → wfT x
  | [], k, x, _, h => by simp at h
  | y :: l, 0, x, hw, h => by simp at h; subst h; exact hw.1
  | y :: l, k + 1, x, hw, h => wfTs_get hw.2 (by simpa using h)
def wfR (x : Rul) : Prop := wfT x.t ∧ x.name.length ≤ 9223372036854775807 ∧ -9223372036854775808 ≤ x.rank ∧ x.rank ≤ 9223372036854775807 ∧ -9223372036854775808 ≤ x.weight ∧ x.weight ≤ 9223372036854775807
def wfRs (l : List Rul) : Prop := l.length ≤ 9223372036854775807 ∧ ∀ x ∈ l, wfR x

/-! How great a test is. -/
mutual
def cntT : Tst → Int → Int
  | .mk _ _ _ _ of, most => cntL of most 1
def cntL : List Tst → Int → Int → Int
  | [], most, n => n
  | t :: l, most, n => if n ≤ most then cntL l most (n + cntT t (most - n)) else n
end
mutual
theorem cntT_bd : ∀ (t : Tst) (m : Int), 0 ≤ m → 1 ≤ cntT t m ∧ cntT t m ≤ m + 1
  | .mk _ _ _ _ of, m, hm => by
    simp only [cntT]
    have := cntL_bd of m 1 (by omega) (by omega) hm
    omega
theorem cntL_bd : ∀ (l : List Tst) (m n : Int), 1 ≤ n → n ≤ m + 1 → 0 ≤ m → n ≤ cntL l m n ∧ cntL l m n ≤ m + 1
  | [], m, n, h1, h2, hm => by simp only [cntL]; omega
  | t :: l, m, n, h1, h2, hm => by
    simp only [cntL]
    split
    · have h3 := cntT_bd t (m - n) (by omega)
      have := cntL_bd l m (n + cntT t (m - n)) (by omega) (by omega) hm
      omega
    · omega
end
end Go.Ev
/-! VC1 -/
set_option maxRecDepth 100000
set_option linter.unusedVariables false
namespace Go.Proofs
open Go Go.Ev
noncomputable def Tryz.X0 : WCx := Tryz.B.wcx []
def R113 : Spc := fun args => match args with
  | [.int .i64 n, .int .i64 a, .int .i64 b] => some (True, rB (decide (a ≤ n) && decide (n ≤ b)))
  | _ => none
theorem v113 (n a b : Int) (Q : CR → Prop) : wpF Tryz.X0 113 [I n, I a, I b] Q =
  (cIf (decide (n ≥ a)) (Q (CR.ret (Bo (decide (n ≤ b))))) (Q (CR.ret (Bo false)))) := by kernel_rfl
theorem v97 (c : Int) (Q : CR → Prop) : wpF Tryz.X0 97 [.int .i32 c] Q =
  (cIf (decide (c ≥ (97 : Int))) (cIf (decide (c ≤ (122 : Int))) (Q (CR.ret (Bo true))) (cIf (decide (c ≥ (48 : Int))) (cIf (decide (c ≤ (57 : Int))) (Q (CR.ret (Bo true))) (Q (CR.ret (Bo (c == (45 : Int)))))) (Q (CR.ret (Bo (c == (45 : Int))))))) (cIf (decide (c ≥ (48 : Int))) (cIf (decide (c ≤ (57 : Int))) (Q (CR.ret (Bo true))) (Q (CR.ret (Bo (c == (45 : Int)))))) (Q (CR.ret (Bo (c == (45 : Int))))))) := by kernel_rfl
theorem v102 (c : Int) (Q : CR → Prop) : wpF Tryz.X0 102 [U c] Q =
  (cIf (decide (c ≥ (97 : Int))) (cIf (decide (c ≤ (122 : Int))) (Q (CR.ret (Bo true))) (cIf (decide (c ≥ (48 : Int))) (cIf (decide (c ≤ (57 : Int))) (Q (CR.ret (Bo true))) (Q (CR.ret (Bo (c == (45 : Int)))))) (Q (CR.ret (Bo (c == (45 : Int))))))) (cIf (decide (c ≥ (48 : Int))) (cIf (decide (c ≤ (57 : Int))) (Q (CR.ret (Bo true))) (Q (CR.ret (Bo (c == (45 : Int)))))) (Q (CR.ret (Bo (c == (45 : Int))))))) := by kernel_rfl
theorem v112 (c : Int) (Q : CR → Prop) : wpF Tryz.X0 112 [U c] Q =
  (cIf (c == (1 : Int)) (cIf (c == (1 : Int)) (Q (CR.ret (I (1 : Int)))) (cIf (c == (3 : Int)) (cIf (c == (3 : Int)) (Q (CR.ret (I (2 : Int)))) (cIf (c == (6 : Int)) (cIf (c == (6 : Int)) (Q (CR.ret (I (3 : Int)))) (Q (CR.ret (I (0 : Int))))) (cIf (c == (7 : Int)) (Q (CR.ret (I (3 : Int)))) (Q (CR.ret (I (0 : Int))))))) (cIf (c == (4 : Int)) (cIf (c == (4 : Int)) (Q (CR.ret (I (2 : Int)))) (cIf (c == (6 : Int)) (cIf (c == (6 : Int)) (Q (CR.ret (I (3 : Int)))) (Q (CR.ret (I (0 : Int))))) (cIf (c == (7 : Int)) (Q (CR.ret (I (3 : Int)))) (Q (CR.ret (I (0 : Int))))))) (cIf (c == (5 : Int)) (Q (CR.ret (I (2 : Int)))) (cIf (c == (6 : Int)) (cIf (c == (6 : Int)) (Q (CR.ret (I (3 : Int)))) (Q (CR.ret (I (0 : Int))))) (cIf (c == (7 : Int)) (Q (CR.ret (I (3 : Int)))) (Q (CR.ret (I (0 : Int)))))))))) (cIf (c == (2 : Int)) (Q (CR.ret (I (1 : Int)))) (cIf (c == (3 : Int)) (cIf (c == (3 : Int)) (Q (CR.ret (I (2 : Int)))) (cIf (c == (6 : Int)) (cIf (c == (6 : Int)) (Q (CR.ret (I (3 : Int)))) (Q (CR.ret (I (0 : Int))))) (cIf (c == (7 : Int)) (Q (CR.ret (I (3 : Int)))) (Q (CR.ret (I (0 : Int))))))) (cIf (c == (4 : Int)) (cIf (c == (4 : Int)) (Q (CR.ret (I (2 : Int)))) (cIf (c == (6 : Int)) (cIf (c == (6 : Int)) (Q (CR.ret (I (3 : Int)))) (Q (CR.ret (I (0 : Int))))) (cIf (c == (7 : Int)) (Q (CR.ret (I (3 : Int)))) (Q (CR.ret (I (0 : Int))))))) (cIf (c == (5 : Int)) (Q (CR.ret (I (2 : Int)))) (cIf (c == (6 : Int)) (cIf (c == (6 : Int)) (Q (CR.ret (I (3 : Int)))) (Q (CR.ret (I (0 : Int))))) (cIf (c == (7 : Int)) (Q (CR.ret (I (3 : Int)))) (Q (CR.ret (I (0 : Int))))))))))) := by kernel_rfl
theorem v116 (c : Int) (Q : CR → Prop) : wpF Tryz.X0 116 [U c] Q =
  (cIf (decide (c ≥ (3 : Int))) (Q (CR.ret (Bo (decide (c ≤ (5 : Int)))))) (Q (CR.ret (Bo false)))) := by kernel_rfl
theorem v152 (c : Int) (Q : CR → Prop) : wpF Tryz.X0 152 [U c] Q =
  (cIf (c == (1 : Int)) (Q (CR.ret (Bo true))) (Q (CR.ret (Bo (c == (2 : Int)))))) := by kernel_rfl
theorem v153 (c : Int) (Q : CR → Prop) : wpF Tryz.X0 153 [U c] Q =
  (cIf (c == (6 : Int)) (Q (CR.ret (Bo true))) (Q (CR.ret (Bo (c == (7 : Int)))))) := by kernel_rfl
end Go.Proofs
/-! C1 -/
set_option maxRecDepth 100000
set_option linter.unusedVariables false
namespace Go.Ev
theorem rB_eq {a b : Bool} (h : a = true ↔ b = true) : rB a = rB b := by
  have : a = b := Bool.eq_iff_iff.2 h
  rw [this]
theorem rI_eq {a b : Int} (h : a = b) : rI a = rI b := by rw [h]
end Go.Ev
namespace Go.Proofs
open Go Go.Ev

theorem ct113 : Ct Tryz.B.c0 113 R113 := Ct.of_wp (lm := []) Tryz.bok (Cts.nil _) ⟨_, _, Tryz.func113, rfl⟩ fun args D r hR hD => by
  unfold R113 at hR
  split at hR <;> cases hR
  refine ⟨rfl, (v113 _ _ _ _).mpr ?_⟩
  refine cIf_intro (fun h => ?_) (fun h => ?_)
  all_goals (apply rB_eq; simp at *; omega)

/-- A profile is valid. -/
def okP (cl vi cr le : Int) : Bool := decide (1 ≤ cl) && decide (cl ≤ 5) && decide (0 ≤ vi) && decide (vi ≤ 2) && decide (0 ≤ cr) && decide (cr ≤ 100001) && decide (0 ≤ le) && decide (le ≤ 200)
/-- A byte of words and numbers. -/
def joinsI (c : Int) : Bool := decide (97 ≤ c) && decide (c ≤ 122) || decide (48 ≤ c) && decide (c ≤ 57) || c == 45
def R97 : Spc := fun args => match args with
  | [.int .i32 c] => some (True, rB (joinsI c))
  | _ => none
theorem ct97 : Ct Tryz.B.c0 97 R97 := Ct.of_wp (lm := []) Tryz.bok (Cts.nil _) ⟨_, _, Tryz.func97, rfl⟩ fun args D r hR hD => by
  unfold R97 at hR
  split at hR <;> cases hR
  refine ⟨rfl, (v97 _ _).mpr ?_⟩
  repeat' (refine cIf_intro (fun h => ?_) (fun h => ?_))
  all_goals (apply rB_eq; simp [joinsI] at *; omega)
def R102 : Spc := fun args => match args with
  | [.int .u8 c] => some (True, rB (joinsI c))
  | _ => none
theorem ct102 : Ct Tryz.B.c0 102 R102 := Ct.of_wp (lm := []) Tryz.bok (Cts.nil _) ⟨_, _, Tryz.func102, rfl⟩ fun args D r hR hD => by
  unfold R102 at hR
  split at hR <;> cases hR
  refine ⟨rfl, (v102 _ _).mpr ?_⟩
  repeat' (refine cIf_intro (fun h => ?_) (fun h => ?_))
  all_goals (apply rB_eq; simp [joinsI] at *; omega)
/-- 1: small, 2: a mark, 3: an ordinal. -/
def kindI (c : Int) : Int := if c = 1 ∨ c = 2 then 1 else if c = 3 ∨ c = 4 ∨ c = 5 then 2 else if c = 6 ∨ c = 7 then 3 else 0
def R112 : Spc := fun args => match args with
  | [.int .u8 c] => some (True, rI (kindI c))
  | _ => none
theorem ct112 : Ct Tryz.B.c0 112 R112 := Ct.of_wp (lm := []) Tryz.bok (Cts.nil _) ⟨_, _, Tryz.func112, rfl⟩ fun args D r hR hD => by
  unfold R112 at hR
  split at hR <;> cases hR
  refine ⟨rfl, (v112 _ _).mpr ?_⟩
  repeat' (refine cIf_intro (fun h => ?_) (fun h => ?_))
  all_goals (apply rI_eq; unfold kindI; simp only [beq_iff_eq, beq_eq_false_iff_ne, ne_eq] at *; first | omega | simp_all)
def R116 : Spc := fun args => match args with
  | [.int .u8 c] => some (True, rB (decide (3 ≤ c) && decide (c ≤ 5)))
  | _ => none
theorem ct116 : Ct Tryz.B.c0 116 R116 := Ct.of_wp (lm := []) Tryz.bok (Cts.nil _) ⟨_, _, Tryz.func116, rfl⟩ fun args D r hR hD => by
  unfold R116 at hR
  split at hR <;> cases hR
  refine ⟨rfl, (v116 _ _).mpr ?_⟩
  repeat' (refine cIf_intro (fun h => ?_) (fun h => ?_))
  all_goals (apply rB_eq; simp at *; omega)
def R152 : Spc := fun args => match args with
  | [.int .u8 c] => some (True, rB (decide (c = 1) || decide (c = 2)))
  | _ => none
theorem ct152 : Ct Tryz.B.c0 152 R152 := Ct.of_wp (lm := []) Tryz.bok (Cts.nil _) ⟨_, _, Tryz.func152, rfl⟩ fun args D r hR hD => by
  unfold R152 at hR
  split at hR <;> cases hR
  refine ⟨rfl, (v152 _ _).mpr ?_⟩
  repeat' (refine cIf_intro (fun h => ?_) (fun h => ?_))
  all_goals (apply rB_eq; simp at *; omega)
def R153 : Spc := fun args => match args with
  | [.int .u8 c] => some (True, rB (decide (c = 6) || decide (c = 7)))
  | _ => none
theorem ct153 : Ct Tryz.B.c0 153 R153 := Ct.of_wp (lm := []) Tryz.bok (Cts.nil _) ⟨_, _, Tryz.func153, rfl⟩ fun args D r hR hD => by
  unfold R153 at hR
  split at hR <;> cases hR
  refine ⟨rfl, (v153 _ _).mpr ?_⟩
  repeat' (refine cIf_intro (fun h => ?_) (fun h => ?_))
  all_goals (apply rB_eq; simp at *; omega)
end Go.Proofs
/-! VC2 -/
set_option maxRecDepth 100000
set_option linter.unusedVariables false
namespace Go.Proofs
open Go Go.Ev
noncomputable abbrev PP : Program := Tryz.prog
noncomputable def R65 : Spc := fun args => match args with
  | [.agg l, .int .i64 m] => some (∃ t, l = encT t ∧ wfT t ∧ 0 ≤ m ∧ m ≤ 1000, rI (onEnc encT (fun t => cntT t m) 0 l))
  | _ => none
def lm65 : List (Nat × List Nat) := [(3, [1, 2, 5, 6]), (7, [5])]
noncomputable def Tryz.X65 (n : Nat) : WCx := Tryz.B.wcx [(65, R65.below n)] lm65
theorem v65 (m : Nat) (op attr side n most : Int) (l : List AV) (len : Nat) (Q : CR → Prop) : wpF (Tryz.X65 m) 65 [.agg [U op, U attr, U side, I n, .vs l len .none], I most] Q =
  (WLoop (Tryz.X65 m) (cd (Tryz.X65 m).P 65 [1, 1, 0, 1, 0, 0]) ([X, I most, AV.ptr 0 0, X, X, I (1 : Int), I (0 : Int)] ++ List.replicate 26 X) (St.mk [some (HB.cells [U op, U attr, U side, I n, AV.vs l len Tok.none] 71)] [] []) (kBlock 0 (kSeq (Tryz.X65 m) (cd (Tryz.X65 m).P 65 [1, 1, 1]) (kRet (Tryz.X65 m) 65 Q)))) := by kernel_rfl
theorem v65l (m : Nat) (op attr side k most n : Int) (l : List AV) (len i : Nat) (Q : CR → Prop) : wpC (Tryz.X65 m) (cd PP 65 [1, 1, 0, 1, 0, 0]) ([X, I most, .ptr 0 0, X, X, I n, I i] ++ List.replicate 26 X) ⟨[some (.cells [U op, U attr, U side, I k, .vs l len .none] 71)], [], []⟩ (kLoop (Tryz.X65 m) (cd PP 65 [1, 1, 0, 1, 0, 0]) (kBlock 0 (kSeq (Tryz.X65 m) (cd PP 65 [1, 1, 1]) (kRet (Tryz.X65 m) 65 Q)))) =
  (cIf (decide ((↑i : Int) < (↑len : Int))) (cIf (decide (n ≤ most)) (cIf (decide (i < len)) (cIf (decide (len * 5 = l.length)) (cIf (decide (5 ≤ (List.drop (i * 5) l).length)) (cIf (like zT (el (List.drop (i * 5) l) 0 5)) (((∃ (t : Tst), (elT (el (List.drop (i * 5) l) 0 5)) = encT t ∧ wfT t ∧ (0 : Int) ≤ IntKind.i64.wrap (most - n) ∧ IntKind.i64.wrap (most - n) ≤ (1000 : Int)) ∧ avSizeL ([] ++ [AV.agg (elT (el (List.drop (i * 5) l) 0 5)), I (IntKind.i64.wrap (most - n))] ++ []) < m) ∧ WLoop (Tryz.X65 m) (cd PP 65 [1, 1, 0, 1, 0, 0]) ([X, I most, AV.ptr 0 0, X, X, AV.int IntKind.i64 (IntKind.i64.wrap (n + onEnc encT (fun (t : Tst) => cntT t (IntKind.i64.wrap (most - n))) (0 : Int) (elT (el (List.drop (i * 5) l) 0 5)))), I (IntKind.i64.wrap ((↑i : Int) + (1 : Int)))] ++ List.replicate 26 X) (St.mk [some (HB.cells [U op, U attr, U side, I k, AV.vs l len Tok.none] 71)] [] []) (kBlock 0 (kSeq (Tryz.X65 m) (cd PP 65 [1, 1, 1]) (kRet (Tryz.X65 m) 65 Q)))) False) False) False) False) (Q (CR.ret (I n)))) (Q (CR.ret (I n)))) := by kernel_rfl
end Go.Proofs
/-! C2 -/
set_option maxRecDepth 100000
set_option linter.unusedVariables false
namespace Go.Ev
theorem wrap_id {x : Int} (h1 : -9223372036854775808 ≤ x) (h2 : x ≤ 9223372036854775807) : IntKind.i64.wrap x = x := by
  simp [IntKind.wrap, IntKind.min, IntKind.max, IntKind.signed, IntKind.bits]
  omega
theorem drop_cons {α : Type} {l : List α} {i : Nat} (h : i < l.length) : ∃ x, l[i]? = some x ∧ l.drop i = x :: l.drop (i + 1) :=
  ⟨l[i], List.getElem?_eq_getElem h, List.drop_eq_getElem_cons h⟩
end Go.Ev
namespace Go.Proofs
open Go Go.Ev

theorem count_loop {m : Nat} (hc : Cts Tryz.B [(65, R65.below m)]) {op attr side k most : Int} {of : List Tst} (hm0 : 0 ≤ most) (hm1 : most ≤ 1000) (hlen : of.length ≤ 9223372036854775807) (hwf : wfTs of) (hsz : avSizeL (encTs of) + 3 ≤ m) (Q : CR → Prop) :
    ∀ (d i : Nat) (n : Int), of.length - i = d → i ≤ of.length → 1 ≤ n → n ≤ most + 1 → Q (rI (cntL (of.drop i) most n)) →
      WLoop (Tryz.X65 m) (cd PP 65 [1, 1, 0, 1, 0, 0]) ([X, I most, .ptr 0 0, X, X, I n, I i] ++ List.replicate 26 X) ⟨[some (.cells [U op, U attr, U side, I k, .vs (encTs of) of.length .none] 71)], [], []⟩ (kBlock 0 (kSeq (Tryz.X65 m) (cd PP 65 [1, 1, 1]) (kRet (Tryz.X65 m) 65 Q))) := by
  intro d
  induction d with
  | zero =>
    intro i n hd hi hn1 hn2 hQ
    have hi' : i = of.length := by omega
    subst hi'
    refine WLoop_step Tryz.bok hc ?_
    refine (v65l m op attr side k most n _ _ _ Q).mpr ?_
    refine cIf_neg (by simp) ?_
    simpa [cntL] using hQ
  | succ d ih =>
    intro i n hd hi hn1 hn2 hQ
    have hlt : i < of.length := by omega
    obtain ⟨x, hx, hdr⟩ := drop_cons hlt
    rw [hdr] at hQ
    refine WLoop_step Tryz.bok hc ?_
    refine (v65l m op attr side k most n _ _ _ Q).mpr ?_
    refine cIf_pos (by simp; omega) ?_
    refine cIf_intro (fun h2 => ?_) (fun h2 => ?_)
    · have h2 : n ≤ most := by simpa using h2
      have hb := cntT_bd x (most - n) (by omega)
      refine cIf_pos (by simpa using hlt) (cIf_pos (by simp [encTs_len]) (cIf_pos (by have := enc_drop_len (encTs_len of) hlt; simpa using this) ?_))
      rw [encTs_el hx, encT_w, wrap_id (x := most - n) (by omega) (by omega)]
      have hs := size_get hx
      refine cIf_pos (encT_like x) ⟨⟨⟨x, rfl, wfTs_get hwf hx, by omega, by omega⟩, ?_⟩, ?_⟩
      · simp only [List.nil_append, List.append_nil, avSizeL, avSize]
        omega
      · rw [onEnc_eq (fun _ _ => encT_inj _ _), wrap_id (x := (i : Int) + 1) (by omega) (by omega), wrap_id (by omega) (by omega)]
        refine ih (i + 1) (n + cntT x (most - n)) (by omega) (by omega) (by omega) (by omega) ?_
        simpa only [cntL, if_pos h2] using hQ
    · have h2 : ¬ n ≤ most := by simpa using h2
      simpa only [cntL, if_neg h2] using hQ

theorem ct65 : Ct Tryz.B.c0 65 R65 := Ct.of_rec (lm := lm65) Tryz.bok (Cts.nil _) ⟨_, _, Tryz.func65, rfl⟩ fun m args D r hc hR hD hm => by
  unfold R65 at hR
  split at hR <;> cases hR
  rename_i most
  obtain ⟨⟨op, attr, side, k, of⟩, rfl, hw, h0, h1⟩ := hD
  simp only [wfT] at hw
  refine ⟨by simp [noHL, noH, noH_encT], ?_⟩
  rw [show scrubL 0 [AV.agg (encT (.mk op attr side k of)), I most] = [AV.agg (encT (.mk op attr side k of)), I most] by simp [scrubL, scrub, sc_encT]]
  refine (v65 m op attr side k _ _ _ _).mpr ?_
  refine count_loop hc h0 h1 (by omega) hw.2.2.2.2.2.2.2.2.2 (by simp only [avSizeL, avSize, encT] at hm; omega) _ _ 0 1 rfl (Nat.zero_le _) (by omega) (by omega) ?_
  rw [onEnc_eq (fun _ _ => encT_inj _ _)]
  rfl
end Go.Proofs
/-! VC3 -/
set_option maxRecDepth 100000
set_option linter.unusedVariables false
namespace Go.Ev
def fewL : List Rul → Int → Int → Int
  | [], m, n => n
  | x :: l, m, n => if n ≤ m then fewL l m (n + cntT x.t m) else n
def fewB (m : Int) (l : List Rul) : Bool := decide (l.length ≤ 25) && decide (fewL l m 0 ≤ m)
mutual
def dpT : Tst → Int → Int
  | .mk _ _ _ _ of, m => dpL of m 0 + 1
def dpL : List Tst → Int → Int → Int
  | [], m, d => d
  | t :: l, m, d => if d < m then dpL l m (if dpT t (m - 1) > d then dpT t (m - 1) else d) else d
end
def szR (t : Tst) : Int × Int := if cntT t 24 > 24 then (25, 7) else if dpT t 6 > 6 then (25, 7) else (cntT t 24, dpT t 6)
end Go.Ev
namespace Go.Proofs
open Go Go.Ev
def isWordB (s : List UInt8) : Bool := decide (1 ≤ s.length) && decide (s.length ≤ 24) && decide (97 ≤ ((s.getD 0 0).toNat : Int)) && decide (((s.getD 0 0).toNat : Int) ≤ 122) && s.all fun c => joinsI (c.toNat : Int)
def valI (a n : Int) : Bool := if a = 1 then decide (1 ≤ n) && decide (n ≤ 5) else if a = 2 then decide (0 ≤ n) && decide (n ≤ 2) else n == 1
noncomputable def R24 : Spc := fun args => match args with
  | [.agg [.vs l len _], .int .i64 m] => some (∃ rs, l = encRs rs ∧ len = rs.length ∧ wfRs rs ∧ 0 ≤ m ∧ m ≤ 1000, rB (onEnc encRs (fewB m) false l))
  | _ => none
noncomputable def Tryz.X24 : WCx := Tryz.B.wcx [(65, R65)] [(5, [1, 2, 5, 6]), (9, [1, 5])]
noncomputable def R192 : Spc := fun args => match args with
  | [.agg l, .int .i64 m] => some (∃ t, l = encT t ∧ wfT t ∧ 0 ≤ m ∧ m ≤ 1000, rI (onEnc encT (fun t => dpT t m) 0 l))
  | _ => none
noncomputable def Tryz.X192 (n : Nat) : WCx := Tryz.B.wcx [(192, R192.below n)] [(3, [1, 2, 5, 6]), (7, [5])]
noncomputable def R149 : Spc := fun args => match args with
  | [.agg l] => some (∃ t, l = encT t ∧ wfT t, .ret (.tup [I (onEnc encT szR (0, 0) l).1, I (onEnc encT szR (0, 0) l).2]))
  | _ => none
noncomputable def Tryz.X149 : WCx := Tryz.B.wcx [(65, R65), (192, R192)]
noncomputable def R109 : Spc := fun args => match args with
  | [.agg l] => some (∃ t, l = encT t ∧ wfT t, rB (onEnc encT (fun t => decide ((szR t).1 ≤ 24)) false l))
  | _ => none
noncomputable def Tryz.X109 : WCx := Tryz.B.wcx [(149, R149)]
noncomputable def Tryz.X103 : WCx := Tryz.B.wcx [(102, R102)] [(4, [0, 3]), (9, [])]
noncomputable def Tryz.X154 : WCx := Tryz.B.wcx [(113, R113)]
theorem v24 (most : Int) (l : List AV) (len : Nat) (tk : Tok) (Q : CR → Prop) : wpF Tryz.X24 24 [.agg [.vs l len tk], I most] Q =
  (cIf (decide ((↑len : Int) > (25 : Int))) (Q (CR.ret (Bo false))) (WLoop Tryz.X24 (cd Tryz.X24.P 24 [1, 1, 1, 0, 1, 0, 0]) ([X, I most, AV.ptr 0 0, X, X, I (0 : Int), I (0 : Int)] ++ List.replicate 31 X) (St.mk [some (HB.cells [AV.vs l len tk] 25)] [] []) (kBlock 0 (kSeq Tryz.X24 (cd Tryz.X24.P 24 [1, 1, 1, 1]) (kRet Tryz.X24 24 Q))))) := by kernel_rfl
theorem v24l (most n : Int) (l : List AV) (len i : Nat) (tk : Tok) (Q : CR → Prop) : wpC Tryz.X24 (cd PP 24 [1, 1, 1, 0, 1, 0, 0]) ([X, I most, .ptr 0 0, X, X, I n, I i] ++ List.replicate 31 X) ⟨[some (.cells [.vs l len tk] 25)], [], []⟩ (kLoop Tryz.X24 (cd PP 24 [1, 1, 1, 0, 1, 0, 0]) (kBlock 0 (kSeq Tryz.X24 (cd PP 24 [1, 1, 1, 1]) (kRet Tryz.X24 24 Q)))) =
  (cIf (decide ((↑i : Int) < (↑len : Int))) (cIf (decide (n ≤ most)) (cIf (decide (i < len)) (cIf (decide (len * 8 = l.length)) (cIf (decide (5 ≤ (List.drop 3 (List.drop (i * 8) l)).length)) (cIf (like zT (el (List.drop 3 (List.drop (i * 8) l)) 0 5)) ((∃ (t : Tst), (elT (el (List.drop 3 (List.drop (i * 8) l)) 0 5)) = encT t ∧ wfT t ∧ (0 : Int) ≤ most ∧ most ≤ (1000 : Int)) ∧ WLoop Tryz.X24 (cd PP 24 [1, 1, 1, 0, 1, 0, 0]) ([X, I most, AV.ptr 0 0, X, X, AV.int IntKind.i64 (IntKind.i64.wrap (n + onEnc encT (fun (t : Tst) => cntT t most) (0 : Int) (elT (el (List.drop 3 (List.drop (i * 8) l)) 0 5)))), I (IntKind.i64.wrap ((↑i : Int) + (1 : Int)))] ++ List.replicate 31 X) (St.mk [some (HB.cells [AV.vs l len tk] 25)] [] []) (kBlock 0 (kSeq Tryz.X24 (cd PP 24 [1, 1, 1, 1]) (kRet Tryz.X24 24 Q)))) False) False) False) False) (Q (CR.ret (Bo (decide (n ≤ most)))))) (Q (CR.ret (Bo (decide (n ≤ most)))))) := by kernel_rfl
theorem v192 (m : Nat) (op attr side n most : Int) (l : List AV) (len : Nat) (Q : CR → Prop) : wpF (Tryz.X192 m) 192 [.agg [U op, U attr, U side, I n, .vs l len .none], I most] Q =
  (WLoop (Tryz.X192 m) (cd (Tryz.X192 m).P 192 [1, 1, 0, 1, 0, 0]) ([X, I most, AV.ptr 0 0, X, X, I (0 : Int), I (0 : Int)] ++ List.replicate 26 X) (St.mk [some (HB.cells [U op, U attr, U side, I n, AV.vs l len Tok.none] 71)] [] []) (kBlock 0 (kSeq (Tryz.X192 m) (cd (Tryz.X192 m).P 192 [1, 1, 1]) (kRet (Tryz.X192 m) 192 Q)))) := by kernel_rfl
theorem v192l (m : Nat) (op attr side k most n : Int) (l : List AV) (len i : Nat) (Q : CR → Prop) : wpC (Tryz.X192 m) (cd PP 192 [1, 1, 0, 1, 0, 0]) ([X, I most, .ptr 0 0, X, X, I n, I i] ++ List.replicate 26 X) ⟨[some (.cells [U op, U attr, U side, I k, .vs l len .none] 71)], [], []⟩ (kLoop (Tryz.X192 m) (cd PP 192 [1, 1, 0, 1, 0, 0]) (kBlock 0 (kSeq (Tryz.X192 m) (cd PP 192 [1, 1, 1]) (kRet (Tryz.X192 m) 192 Q)))) =
  (cIf (decide ((↑i : Int) < (↑len : Int))) (cIf (decide (n < most)) (cIf (decide (i < len)) (cIf (decide (len * 5 = l.length)) (cIf (decide (5 ≤ (List.drop (i * 5) l).length)) (cIf (like zT (el (List.drop (i * 5) l) 0 5)) (((∃ (t : Tst), (elT (el (List.drop (i * 5) l) 0 5)) = encT t ∧ wfT t ∧ (0 : Int) ≤ IntKind.i64.wrap (most - (1 : Int)) ∧ IntKind.i64.wrap (most - (1 : Int)) ≤ (1000 : Int)) ∧ avSizeL ([] ++ [AV.agg (elT (el (List.drop (i * 5) l) 0 5)), I (IntKind.i64.wrap (most - (1 : Int)))] ++ []) < m) ∧ WLoop (Tryz.X192 m) (cd PP 192 [1, 1, 0, 1, 0, 0]) ([X, I most, AV.ptr 0 0, X, X, AV.int IntKind.i64 (if onEnc encT (fun (t : Tst) => dpT t (IntKind.i64.wrap (most - (1 : Int)))) (0 : Int) (elT (el (List.drop (i * 5) l) 0 5)) > n then onEnc encT (fun (t : Tst) => dpT t (IntKind.i64.wrap (most - (1 : Int)))) (0 : Int) (elT (el (List.drop (i * 5) l) 0 5)) else n), I (IntKind.i64.wrap ((↑i : Int) + (1 : Int)))] ++ List.replicate 26 X) (St.mk [some (HB.cells [U op, U attr, U side, I k, AV.vs l len Tok.none] 71)] [] []) (kBlock 0 (kSeq (Tryz.X192 m) (cd PP 192 [1, 1, 1]) (kRet (Tryz.X192 m) 192 Q)))) False) False) False) False) (Q (CR.ret (I (IntKind.i64.wrap (n + (1 : Int))))))) (Q (CR.ret (I (IntKind.i64.wrap (n + (1 : Int))))))) := by kernel_rfl
theorem v149 (op attr side n : Int) (l : List AV) (len : Nat) (Q : CR → Prop) : wpF Tryz.X149 149 [.agg [U op, U attr, U side, I n, .vs l len .none]] Q =
  ((∃ (t : Tst), [U op, U attr, U side, I n, AV.vs l len Tok.none] = encT t ∧ wfT t ∧ (0 : Int) ≤ (24 : Int) ∧ (24 : Int) ≤ (1000 : Int)) ∧ cIf (decide (onEnc encT (fun (t : Tst) => cntT t (24 : Int)) (0 : Int) [U op, U attr, U side, I n, AV.vs l len Tok.none] > (24 : Int))) (Q (CR.ret (AV.tup [I (25 : Int), I (7 : Int)]))) ((∃ (t : Tst), [U op, U attr, U side, I n, AV.vs l len Tok.none] = encT t ∧ wfT t ∧ (0 : Int) ≤ (6 : Int) ∧ (6 : Int) ≤ (1000 : Int)) ∧ cIf (decide (onEnc encT (fun (t : Tst) => dpT t (6 : Int)) (0 : Int) [U op, U attr, U side, I n, AV.vs l len Tok.none] > (6 : Int))) (Q (CR.ret (AV.tup [I (25 : Int), I (7 : Int)]))) (Q (CR.ret (AV.tup [AV.int IntKind.i64 (onEnc encT (fun (t : Tst) => cntT t (24 : Int)) (0 : Int) [U op, U attr, U side, I n, AV.vs l len Tok.none]), AV.int IntKind.i64 (onEnc encT (fun (t : Tst) => dpT t (6 : Int)) (0 : Int) [U op, U attr, U side, I n, AV.vs l len Tok.none])]))))) := by kernel_rfl
theorem v109 (op attr side n : Int) (l : List AV) (len : Nat) (Q : CR → Prop) : wpF Tryz.X109 109 [.agg [U op, U attr, U side, I n, .vs l len .none]] Q =
  ((∃ (t : Tst), [U op, U attr, U side, I n, AV.vs l len Tok.none] = encT t ∧ wfT t) ∧ Q (CR.ret (Bo (decide ((onEnc encT szR ((0 : Int), (0 : Int)) [U op, U attr, U side, I n, AV.vs l len Tok.none]).fst ≤ (24 : Int)))))) := by kernel_rfl
theorem v103 (s : List UInt8) (Q : CR → Prop) : wpF Tryz.X103 103 [.str s] Q =
  (cIf (decide ((↑s.length : Int) < (1 : Int))) (Q (CR.ret (Bo false))) (cIf (decide ((↑s.length : Int) > (24 : Int))) (Q (CR.ret (Bo false))) (cIf (decide (0 < s.length)) (cIf (decide ((↑(s.getD 0 (0 : UInt8)).toNat : Int) < (97 : Int))) (Q (CR.ret (Bo false))) (cIf (decide (0 < s.length)) (cIf (decide ((↑(s.getD 0 (0 : UInt8)).toNat : Int) > (122 : Int))) (Q (CR.ret (Bo false))) (WLoop Tryz.X103 (cd Tryz.X103.P 103 [1, 1, 0, 1, 0, 0]) ([AV.str s, X, X, I (0 : Int)] ++ List.replicate 31 X) (St.mk [] [] []) (kBlock 0 (kSeq Tryz.X103 (cd Tryz.X103.P 103 [1, 1, 1]) (kRet Tryz.X103 103 Q))))) False)) False))) := by kernel_rfl
theorem v103l (s : List UInt8) (i : Nat) (Q : CR → Prop) : wpC Tryz.X103 (cd PP 103 [1, 1, 0, 1, 0, 0]) ([.str s, X, X, I i] ++ List.replicate 31 X) ⟨[], [], []⟩ (kLoop Tryz.X103 (cd PP 103 [1, 1, 0, 1, 0, 0]) (kBlock 0 (kSeq Tryz.X103 (cd PP 103 [1, 1, 1]) (kRet Tryz.X103 103 Q)))) =
  (cIf (decide ((↑i : Int) < (↑s.length : Int))) (cIf (decide (i < s.length)) (True ∧ cIf (!joinsI (↑(s.getD i (0 : UInt8)).toNat : Int)) (Q (CR.ret (Bo false))) (WLoop Tryz.X103 (cd PP 103 [1, 1, 0, 1, 0, 0]) ([AV.str s, X, X, I (IntKind.i64.wrap ((↑i : Int) + (1 : Int)))] ++ List.replicate 31 X) (St.mk [] [] []) (kBlock 0 (kSeq Tryz.X103 (cd PP 103 [1, 1, 1]) (kRet Tryz.X103 103 Q))))) False) (Q (CR.ret (Bo true)))) := by kernel_rfl
theorem v154 (a n : Int) (Q : CR → Prop) : wpF Tryz.X154 154 [U a, I n] Q =
  (cIf (a == (1 : Int)) (True ∧ Q (CR.ret (Bo (decide ((1 : Int) ≤ n) && decide (n ≤ (5 : Int)))))) (cIf (a == (2 : Int)) (True ∧ Q (CR.ret (Bo (decide ((0 : Int) ≤ n) && decide (n ≤ (2 : Int)))))) (Q (CR.ret (Bo (n == (1 : Int))))))) := by kernel_rfl
end Go.Proofs
/-! C3 -/
set_option maxRecDepth 100000
set_option linter.unusedVariables false
namespace Go.Proofs
open Go Go.Ev
theorem few_loop {most : Int} {rs : List Rul} (tk : Tok) (hm0 : 0 ≤ most) (hm1 : most ≤ 1000) (hw : wfRs rs) (Q : CR → Prop) :
    ∀ (d i : Nat) (n : Int), rs.length - i = d → i ≤ rs.length → 0 ≤ n → n ≤ most + most + 1 → Q (rB (decide (fewL (rs.drop i) most n ≤ most))) →
      WLoop Tryz.X24 (cd PP 24 [1, 1, 1, 0, 1, 0, 0]) ([X, I most, .ptr 0 0, X, X, I n, I i] ++ List.replicate 31 X) ⟨[some (.cells [.vs (encRs rs) rs.length tk] 25)], [], []⟩ (kBlock 0 (kSeq Tryz.X24 (cd PP 24 [1, 1, 1, 1]) (kRet Tryz.X24 24 Q))) := by
  have hlen := hw.1
  have step : ∀ {env S k}, wpC Tryz.X24 (cd PP 24 [1, 1, 1, 0, 1, 0, 0]) env S (kLoop Tryz.X24 (cd PP 24 [1, 1, 1, 0, 1, 0, 0]) k) → WLoop Tryz.X24 (cd PP 24 [1, 1, 1, 0, 1, 0, 0]) env S k := fun h => WLoop_step Tryz.bok ((Cts.nil _).cons ct65) h
  intro d
  induction d with
  | zero =>
    intro i n hd hi hn1 hn2 hQ
    have hi' : i = rs.length := by omega
    subst hi'
    refine step ((v24l most n _ _ _ tk Q).mpr (cIf_neg (by simp) ?_))
    simpa [fewL] using hQ
  | succ d ih =>
    intro i n hd hi hn1 hn2 hQ
    have hlt : i < rs.length := by omega
    obtain ⟨x, hx, hdr⟩ := drop_cons hlt
    rw [hdr] at hQ
    refine step ((v24l most n _ _ _ tk Q).mpr (cIf_pos (by simp; omega) (cIf_intro (fun h2 => ?_) (fun h2 => ?_))))
    · have h2 : n ≤ most := by simpa using h2
      have hb := cntT_bd x.t most hm0
      refine cIf_pos (by simpa using hlt) (cIf_pos (by simp [encRs_len]) (cIf_pos (by have := enc_drop_len (encRs_len rs) hlt; simp only [List.length_drop, decide_eq_true_eq] at this ⊢; omega) ?_))
      rw [encRs_elT hx, encT_w]
      refine cIf_pos (encT_like _) ⟨⟨x.t, rfl, (hw.2 x (List.mem_of_getElem? hx)).1, by omega, by omega⟩, ?_⟩
      rw [onEnc_eq (fun _ _ => encT_inj _ _), wrap_id (x := (i : Int) + 1) (by omega) (by omega), wrap_id (by omega) (by omega)]
      refine ih (i + 1) (n + cntT x.t most) (by omega) (by omega) (by omega) (by omega) ?_
      simpa only [fewL, if_pos h2] using hQ
    · have h2 : ¬ n ≤ most := by simpa using h2
      simpa only [fewL, if_neg h2] using hQ
theorem ct24 : Ct Tryz.B.c0 24 R24 := Ct.of_wp (lm := [(5, [1, 2, 5, 6]), (9, [1, 5])]) Tryz.bok ((Cts.nil _).cons ct65) ⟨_, _, Tryz.func24, rfl⟩ fun args D r hR hD => by
  unfold R24 at hR
  split at hR <;> cases hR
  rename_i tk most
  obtain ⟨rs, rfl, rfl, hw, h0, h1⟩ := hD
  refine ⟨by simp [noHL, noH, noH_encRs], ?_⟩
  rw [show scrubL 0 [AV.agg [.vs (encRs rs) rs.length tk], I most] = [AV.agg [.vs (encRs rs) rs.length (tk.scrub 0)], I most] by simp [scrubL, scrub, sc_encRs]]
  refine (v24 _ _ _ _ _).mpr ?_
  rw [onEnc_eq encRs_inj]
  refine cIf_intro (fun h => ?_) (fun h => ?_)
  · have h : ¬ rs.length ≤ 25 := by simp at h; omega
    apply rB_eq; simp [fewB, h]
  · have h : rs.length ≤ 25 := by simp at h; omega
    refine few_loop _ h0 h1 hw _ _ 0 0 rfl (Nat.zero_le _) (by omega) (by omega) ?_
    apply rB_eq; simp [fewB, h]

mutual
theorem dpT_bd : ∀ (t : Tst) (m : Int), 0 ≤ m → 1 ≤ dpT t m ∧ dpT t m ≤ m + 1
  | .mk _ _ _ _ of, m, hm => by
    simp only [dpT]
    have := dpL_bd of m 0 (by omega) (by omega) hm
    omega
theorem dpL_bd : ∀ (l : List Tst) (m n : Int), 0 ≤ n → n ≤ m → 0 ≤ m → n ≤ dpL l m n ∧ dpL l m n ≤ m
  | [], m, n, h1, h2, hm => by simp only [dpL]; omega
  | t :: l, m, n, h1, h2, hm => by
    simp only [dpL]
    split
    · have h3 := dpT_bd t (m - 1) (by omega)
      split
      · have := dpL_bd l m (dpT t (m - 1)) (by omega) (by omega) hm
        omega
      · exact dpL_bd l m n (by omega) (by omega) hm
    · omega
end
theorem depth_loop {m : Nat} (hc : Cts Tryz.B [(192, R192.below m)]) {op attr side k most : Int} {of : List Tst} (hm0 : 0 ≤ most) (hm1 : most ≤ 1000) (hlen : of.length ≤ 9223372036854775807) (hwf : wfTs of) (hsz : avSizeL (encTs of) + 3 ≤ m) (Q : CR → Prop) :
    ∀ (d i : Nat) (n : Int), of.length - i = d → i ≤ of.length → 0 ≤ n → n ≤ most → Q (rI (dpL (of.drop i) most n + 1)) →
      WLoop (Tryz.X192 m) (cd PP 192 [1, 1, 0, 1, 0, 0]) ([X, I most, .ptr 0 0, X, X, I n, I i] ++ List.replicate 26 X) ⟨[some (.cells [U op, U attr, U side, I k, .vs (encTs of) of.length .none] 71)], [], []⟩ (kBlock 0 (kSeq (Tryz.X192 m) (cd PP 192 [1, 1, 1]) (kRet (Tryz.X192 m) 192 Q))) := by
  intro d
  induction d with
  | zero =>
    intro i n hd hi hn1 hn2 hQ
    have hi' : i = of.length := by omega
    subst hi'
    refine WLoop_step Tryz.bok hc ((v192l m op attr side k most n _ _ _ Q).mpr (cIf_neg (by simp) ?_))
    rw [wrap_id (by omega) (by omega)]
    simpa [dpL] using hQ
  | succ d ih =>
    intro i n hd hi hn1 hn2 hQ
    have hlt : i < of.length := by omega
    obtain ⟨x, hx, hdr⟩ := drop_cons hlt
    rw [hdr] at hQ
    refine WLoop_step Tryz.bok hc ((v192l m op attr side k most n _ _ _ Q).mpr (cIf_pos (by simp; omega) (cIf_intro (fun h2 => ?_) (fun h2 => ?_))))
    · have h2 : n < most := by simpa using h2
      have hb := dpT_bd x (most - 1) (by omega)
      refine cIf_pos (by simpa using hlt) (cIf_pos (by simp [encTs_len]) (cIf_pos (by have := enc_drop_len (encTs_len of) hlt; simpa using this) ?_))
      rw [encTs_el hx, encT_w, wrap_id (x := most - 1) (by omega) (by omega)]
      have hs := size_get hx
      refine cIf_pos (encT_like x) ⟨⟨⟨x, rfl, wfTs_get hwf hx, by omega, by omega⟩, ?_⟩, ?_⟩
      · simp only [List.nil_append, List.append_nil, avSizeL, avSize]
        omega
      · rw [onEnc_eq (fun _ _ => encT_inj _ _), wrap_id (x := (i : Int) + 1) (by omega) (by omega)]
        refine ih (i + 1) _ (by omega) (by omega) (by split <;> omega) (by split <;> omega) ?_
        simpa only [dpL, if_pos h2] using hQ
    · have h2 : ¬ n < most := by simpa using h2
      rw [wrap_id (by omega) (by omega)]
      simpa only [dpL, if_neg h2] using hQ
theorem ct192 : Ct Tryz.B.c0 192 R192 := Ct.of_rec (lm := [(3, [1, 2, 5, 6]), (7, [5])]) Tryz.bok (Cts.nil _) ⟨_, _, Tryz.func192, rfl⟩ fun m args D r hc hR hD hm => by
  unfold R192 at hR
  split at hR <;> cases hR
  rename_i most
  obtain ⟨⟨op, attr, side, k, of⟩, rfl, hw, h0, h1⟩ := hD
  simp only [wfT] at hw
  refine ⟨by simp [noHL, noH, noH_encT], ?_⟩
  rw [show scrubL 0 [AV.agg (encT (.mk op attr side k of)), I most] = [AV.agg (encT (.mk op attr side k of)), I most] by simp [scrubL, scrub, sc_encT]]
  refine (v192 m op attr side k _ _ _ _).mpr ?_
  refine depth_loop hc h0 h1 (by omega) hw.2.2.2.2.2.2.2.2.2 (by simp only [avSizeL, avSize, encT] at hm; omega) _ _ 0 0 rfl (Nat.zero_le _) (by omega) (by omega) ?_
  rw [onEnc_eq (fun _ _ => encT_inj _ _)]
  rfl

theorem ct149 : Ct Tryz.B.c0 149 R149 := Ct.of_wp (lm := []) Tryz.bok (((Cts.nil _).cons ct192).cons ct65) ⟨_, _, Tryz.func149, rfl⟩ fun args D r hR hD => by
  unfold R149 at hR
  split at hR <;> cases hR
  obtain ⟨⟨op, attr, side, k, of⟩, rfl, hw⟩ := hD
  refine ⟨by simp [noHL, noH, noH_encT], ?_⟩
  rw [show scrubL 0 [AV.agg (encT (.mk op attr side k of))] = [AV.agg (encT (.mk op attr side k of))] by simp [scrubL, scrub, sc_encT], onEnc_eq (fun _ _ => encT_inj _ _)]
  refine (v149 op attr side k _ _ _).mpr ?_
  rw [show [U op, U attr, U side, I k, AV.vs (encTs of) of.length Tok.none] = encT (.mk op attr side k of) from rfl, onEnc_eq (fun _ _ => encT_inj _ _), onEnc_eq (fun _ _ => encT_inj _ _)]
  refine ⟨⟨_, rfl, hw, by omega, by omega⟩, cIf_intro (fun h => ?_) (fun h => ⟨⟨_, rfl, hw, by omega, by omega⟩, cIf_intro (fun h2 => ?_) (fun h2 => ?_)⟩)⟩
  · simp at h
    simp [szR, h]
  · simp at h h2
    have h' : ¬ (24 < cntT (Tst.mk op attr side k of) 24) := by omega
    simp [szR, h', h2]
  · simp at h h2
    have h' : ¬ (24 < cntT (Tst.mk op attr side k of) 24) := by omega
    have h2' : ¬ (6 < dpT (Tst.mk op attr side k of) 6) := by omega
    simp [szR, h', h2']
theorem ct109 : Ct Tryz.B.c0 109 R109 := Ct.of_wp (lm := []) Tryz.bok ((Cts.nil _).cons ct149) ⟨_, _, Tryz.func109, rfl⟩ fun args D r hR hD => by
  unfold R109 at hR
  split at hR <;> cases hR
  obtain ⟨⟨op, attr, side, k, of⟩, rfl, hw⟩ := hD
  refine ⟨by simp [noHL, noH, noH_encT], ?_⟩
  rw [show scrubL 0 [AV.agg (encT (.mk op attr side k of))] = [AV.agg (encT (.mk op attr side k of))] by simp [scrubL, scrub, sc_encT], onEnc_eq (fun _ _ => encT_inj _ _)]
  refine (v109 op attr side k _ _ _).mpr ?_
  rw [show [U op, U attr, U side, I k, AV.vs (encTs of) of.length Tok.none] = encT (.mk op attr side k of) from rfl, onEnc_eq (fun _ _ => encT_inj _ _)]
  exact ⟨⟨_, rfl, hw⟩, rfl⟩

def R103 : Spc := fun args => match args with
  | [.str s] => some (s.length ≤ 9223372036854775807, rB (isWordB s))
  | _ => none
theorem word_loop {s : List UInt8} (hlen : s.length ≤ 9223372036854775807) (Q : CR → Prop) :
    ∀ (d i : Nat), s.length - i = d → i ≤ s.length → Q (rB ((s.drop i).all fun c => joinsI (c.toNat : Int))) →
      WLoop Tryz.X103 (cd PP 103 [1, 1, 0, 1, 0, 0]) ([.str s, X, X, I i] ++ List.replicate 31 X) ⟨[], [], []⟩ (kBlock 0 (kSeq Tryz.X103 (cd PP 103 [1, 1, 1]) (kRet Tryz.X103 103 Q))) := by
  have step : ∀ {env S k}, wpC Tryz.X103 (cd PP 103 [1, 1, 0, 1, 0, 0]) env S (kLoop Tryz.X103 (cd PP 103 [1, 1, 0, 1, 0, 0]) k) → WLoop Tryz.X103 (cd PP 103 [1, 1, 0, 1, 0, 0]) env S k := fun h => WLoop_step Tryz.bok ((Cts.nil _).cons ct102) h
  intro d
  induction d with
  | zero =>
    intro i hd hi hQ
    have hi' : i = s.length := by omega
    subst hi'
    refine step ((v103l _ _ Q).mpr (cIf_neg (by simp) ?_))
    simpa using hQ
  | succ d ih =>
    intro i hd hi hQ
    have hlt : i < s.length := by omega
    obtain ⟨x, hx, hdr⟩ := drop_cons hlt
    rw [hdr] at hQ
    have hg : s.getD i 0 = x := by simp [List.getD_eq_getElem?_getD, hx]
    refine step ((v103l _ _ Q).mpr (cIf_pos (by simp; omega) (cIf_pos (by simpa using hlt) ⟨trivial, ?_⟩)))
    rw [hg]
    refine cIf_intro (fun h2 => ?_) (fun h2 => ?_)
    · simp at h2
      simpa [h2] using hQ
    · simp at h2
      rw [wrap_id (by omega) (by omega)]
      refine ih (i + 1) (by omega) (by omega) ?_
      simpa [h2] using hQ
theorem ct103 : Ct Tryz.B.c0 103 R103 := Ct.of_wp (lm := [(4, [0, 3]), (9, [])]) Tryz.bok ((Cts.nil _).cons ct102) ⟨_, _, Tryz.func103, rfl⟩ fun args D r hR hD => by
  unfold R103 at hR
  split at hR <;> cases hR
  rename_i s
  refine ⟨rfl, (v103 _ _).mpr ?_⟩
  refine cIf_intro (fun h => ?_) (fun h => cIf_intro (fun h1 => ?_) (fun h1 => cIf_pos ?_ (cIf_intro (fun h2 => ?_) (fun h2 => cIf_pos ?_ (cIf_intro (fun h3 => ?_) (fun h3 => ?_))))))
  · apply rB_eq; simp [isWordB] at *; omega
  · apply rB_eq; simp [isWordB] at *; omega
  · simp at *; omega
  · apply rB_eq; simp [isWordB] at *; omega
  · simp at *; omega
  · apply rB_eq; simp [isWordB] at *; omega
  · refine word_loop hD _ _ 0 rfl (Nat.zero_le _) ?_
    apply rB_eq
    simp only [isWordB, List.drop_zero, Bool.and_eq_true, decide_eq_true_eq]
    simp at h h1 h2 h3
    constructor
    · intro hh; exact ⟨⟨⟨⟨by omega, by omega⟩, by simpa using h2⟩, by simpa using h3⟩, hh⟩
    · intro hh; exact hh.2
def R154 : Spc := fun args => match args with
  | [.int .u8 a, .int .i64 n] => some (True, rB (valI a n))
  | _ => none
theorem ct154 : Ct Tryz.B.c0 154 R154 := Ct.of_wp (lm := []) Tryz.bok ((Cts.nil _).cons ct113) ⟨_, _, Tryz.func154, rfl⟩ fun args D r hR hD => by
  unfold R154 at hR
  split at hR <;> cases hR
  refine ⟨rfl, (v154 _ _ _).mpr ?_⟩
  refine cIf_intro (fun h => ⟨trivial, ?_⟩) (fun h => cIf_intro (fun h1 => ⟨trivial, ?_⟩) (fun h1 => ?_))
  all_goals (apply rB_eq; simp [valI] at *; simp [*])
end Go.Proofs
