/- An evaluator of the model, part 5: calls told as propositions, contracts. -/
import Derived.Test.YtdpfgjljehajbaaGreatDoorE3
import Derived.Test.YtdpfgjljehajbaaGreatDoorE4
import Derived.Test.YtdpfgjljehajbaaGreatDoorE4b
set_option linter.unusedVariables false
set_option linter.unusedSimpArgs false
/-! Ev.Wp -/
set_option linter.unusedVariables false
set_option linter.unusedSimpArgs false
namespace Go.Ev

/-! What an evaluation needs, told as a proposition. -/
def cIf (b : Bool) (p q : Prop) : Prop := Bool.rec q p b
def optW {α : Type} (o : Option α) (k : α → Prop) : Prop := Option.rec False k o
theorem cIf_true (p q : Prop) : cIf true p q = p := rfl
theorem cIf_false (p q : Prop) : cIf false p q = q := rfl
theorem cIf_elim {b : Bool} {p q : Prop} (h : cIf b p q) : (b = true ∧ p) ∨ (b = false ∧ q) := by
  cases b
  · exact .inr ⟨rfl, h⟩
  · exact .inl ⟨rfl, h⟩
theorem cIf_intro {b : Bool} {p q : Prop} (h1 : b = true → p) (h2 : b = false → q) : cIf b p q := by
  cases b
  · exact h2 rfl
  · exact h1 rfl
theorem cIf_pos {b : Bool} {p q : Prop} (hb : b = true) (h : p) : cIf b p q := by subst hb; exact h
theorem cIf_neg {b : Bool} {p q : Prop} (hb : b = false) (h : q) : cIf b p q := by subst hb; exact h
theorem cIf_and {b : Bool} {p : Prop} (h : cIf b p False) : b = true ∧ p := by
  rcases cIf_elim h with h | h
  · exact h
  · exact h.2.elim
theorem optW_elim {α : Type} {o : Option α} {k : α → Prop} (h : optW o k) : ∃ v, o = some v ∧ k v := by
  cases o with
  | none => exact False.elim h
  | some v => exact ⟨v, rfl, h⟩
structure WCx where
  P : Program
  gt : Nat → Option (List AV)
  eqt : TypeId → Bool
  nat : FuncId → List AV → Option AV
  hw : FuncId → Option (List AV → St → (CR → St → Prop) → Prop)
  /-- What is read behind a place (the place: the number of the region that stands first). -/
  lm : Nat → Option (List Nat)
  /-- Blocks whose cells are read by their kinds. -/
  tp : Nat → Bool
  /-- Places (as in lm) at which an evaluation pauses. -/
  ct : Nat → Bool
  /-- How many blocks are still needed at a place. -/
  sm : Nat → Option Nat
  /-- How many blocks there are at the start. -/
  bs : Nat := 0

open Classical in
/-- What a hook gives. -/
noncomputable def hookOf (W : List AV → St → (CR → St → Prop) → Prop) (args : List AV) (S : St) : Option (CR × St) :=
  if h : ∃ p : CR × St, W args S fun r s => r = p.1 ∧ s = p.2 then some h.choose else none

/-- A hook has one outcome. -/
def One (W : List AV → St → (CR → St → Prop) → Prop) : Prop := ∀ args S, ∃ (p : CR × St) (D : Prop), ∀ k, W args S k ↔ D ∧ k p.1 p.2

theorem One.hook {W : List AV → St → (CR → St → Prop) → Prop} (h1 : One W) {args : List AV} {S : St} {k : CR → St → Prop} (h : W args S k) : ∃ r S', hookOf W args S = some (r, S') ∧ k r S' := by
  obtain ⟨p, D, hp⟩ := h1 args S
  have hd := ((hp k).1 h).1
  have hx : ∃ p : CR × St, W args S fun r s => r = p.1 ∧ s = p.2 := ⟨p, (hp _).2 ⟨hd, rfl, rfl⟩⟩
  unfold hookOf
  rw [dif_pos hx]
  refine ⟨hx.choose.1, hx.choose.2, rfl, ?_⟩
  have h2 := ((hp _).1 hx.choose_spec).2
  rw [← h2.1, ← h2.2]
  exact ((hp k).1 h).2
theorem hookOf_spec {W : List AV → St → (CR → St → Prop) → Prop} {args : List AV} {S S' : St} {r : CR} (h : hookOf W args S = some (r, S')) : W args S fun r' s => r' = r ∧ s = S' := by
  unfold hookOf at h
  split at h
  · rename_i hx
    have h2 := hx.choose_spec
    rw [Option.some.inj h] at h2
    exact h2
  · cases h

noncomputable def WCx.cx (C : WCx) : Cx := { P := C.P, gt := C.gt, eqt := C.eqt, nat := C.nat, hk := fun g => (C.hw g).map hookOf }
def WCx.pc (C : WCx) : Cx := { P := C.P, gt := C.gt, eqt := C.eqt, nat := C.nat, hk := fun _ => none }

/-! Cells told by their kinds. -/
def AV.toInt : AV → Int | .int _ n => n | _ => 0
def AV.toBool : AV → Bool | .bool b => b | _ => false
def AV.toStr : AV → List UInt8 | .str s => s | _ => []
def AV.toL : AV → List AV | .vs l _ _ => l | _ => []
def AV.toN : AV → Nat | .vs _ n _ => n | _ => 0
def AV.toTk : AV → Tok | .vs _ _ t => t | _ => .none
def likeOk : AV → AV → Bool
  | .int k _, .int k' _ => k == k'
  | .bool _, .bool _ => true
  | .str _, .str _ => true
  | .vs _ _ _, .vs _ _ _ => true
  | .int _ _, _ => false
  | .bool _, _ => false
  | .str _, _ => false
  | .vs _ _ _, _ => false
  | _, _ => true
/-- n cells from off on. -/
def el (l : List AV) (off n : Nat) : List AV := (l.drop off).take n
def cI (E : List AV) (j : Nat) : Int := (E.getD j .bad).toInt
def cB (E : List AV) (j : Nat) : Bool := (E.getD j .bad).toBool
def cS (E : List AV) (j : Nat) : List UInt8 := (E.getD j .bad).toStr
def cL (E : List AV) (j : Nat) : List AV := (E.getD j .bad).toL
def cN (E : List AV) (j : Nat) : Nat := (E.getD j .bad).toN
def cT (E : List AV) (j : Nat) : Tok := (E.getD j .bad).toTk
def wrapAt (z : AV) (E : List AV) (j : Nat) : AV := match z with
  | .int k _ => .int k (cI E j)
  | .bool _ => .bool (cB E j)
  | .str _ => .str (cS E j)
  | .vs _ _ _ => .vs (cL E j) (cN E j) (cT E j)
  | _ => E.getD j .bad
def like : List AV → List AV → Bool
  | [], [] => true
  | z :: zs, v :: vs => likeOk z v && like zs vs
  | _, _ => false
def wrapsFrom : List AV → List AV → Nat → List AV
  | [], _, _ => []
  | z :: zs, E, j => wrapAt z E j :: wrapsFrom zs E (j + 1)

section
variable (C : WCx)

def natW (a : AV) (k : Nat → Prop) : Prop := match a with
  | .int _ n => cIf (decide (0 ≤ n)) (k n.toNat) False
  | _ => False
def optNatW (d : Nat) (a : Option AV) (k : Nat → Prop) : Prop := match a with
  | none => k d
  | some a => natW a k
def readW (t : TypeId) (l : List AV) (off : Nat) (k : AV → Prop) : Prop :=
  match aggT C.pc t, szT C.pc t with
  | some true, some n => cIf (decide (off + n ≤ l.length)) (k (.agg (el l off n))) False
  | some false, some _ => optW l[off]? k
  | _, _ => False
def readT (t : TypeId) (l : List AV) (off : Nat) (k : AV → Prop) : Prop :=
  match aggT C.pc t, szT C.pc t, zeroA C.pc t with
  | some true, some n, some zs => cIf (decide (off + n ≤ l.length)) (cIf (like zs (el l off n)) (k (.agg (wrapsFrom zs (el l off n) 0))) False) False
  | some false, some _, some [z] => cIf (decide (off < l.length)) (cIf (likeOk z (l.getD off .bad)) (k (wrapAt z l off)) False) False
  | _, _, _ => False
def loadW (S : St) (t : TypeId) (a : AV) (k : AV → Prop) : Prop := match a with
  | .ptr h off => match blockOf S h with
    | some (l, _) => match C.tp h with
      | true => readT C t l off k
      | false => readW C t l off k
    | none => False
  | .vp l => readT C t l 0 k
  | _ => False
def indexAddrW (t : TypeId) (x i : AV) (k : AV → Prop) : Prop :=
  natW i fun j => match C.P.underlying t with
    | some (.array len e) => match szT C.pc e with
      | some n => cIf (decide (j < len)) (match x with
        | .ptr h off => k (.ptr h (off + j * n))
        | .vp l => k (.vp (l.drop (j * n)))
        | _ => False) False
      | none => False
    | some (.slice e) => match szT C.pc e with
      | some n => match x with
        | .vs l m _ => cIf (decide (j < m)) (cIf (decide (m * n = l.length)) (cIf (decide (0 < n)) (k (.vp (l.drop (j * n)))) False) False) False
        | .row h off m _ => cIf (decide (j < m)) (k (.ptr h (off + j * n))) False
        | _ => False
      | none => False
    | _ => False
def indexW (t : TypeId) (x i : AV) (k : AV → Prop) : Prop :=
  natW i fun j => match C.P.underlying t with
    | some (.array len e) => match szT C.pc e with
      | some n => match x with
        | .agg l => cIf (decide (j < len)) (readW C e l (j * n) k) False
        | _ => False
      | none => False
    | some .string => match x with
      | .str s => cIf (decide (j < s.length)) (k (.int .u8 ((s.getD j 0).toNat : Int))) False
      | _ => False
    | _ => False
def sliceW (t : TypeId) (x : AV) (lo hi mx : Option AV) (k : AV → Prop) : Prop :=
  match C.P.underlying t with
  | some .string => match x with
    | .str s => match mx with
      | some _ => False
      | none => optNatW 0 lo fun l => optNatW s.length hi fun h => cIf (decide (l ≤ h)) (cIf (decide (h ≤ s.length)) (k (.str ((s.drop l).take (h - l)))) False) False
    | _ => False
  | some (.slice e) => match szT C.pc e with
    | some z => match x with
      | .vs cs n tk => match mx with
        | none => optNatW 0 lo fun l => optNatW n hi fun h => cIf (decide (l ≤ h)) (cIf (decide (h ≤ n)) (k (.vs ((cs.drop (l * z)).take ((h - l) * z)) (h - l) (if l = 0 ∧ h = n then tk else .none))) False) False
        | some m => optW (sliceA C.pc t x lo hi (some m)) k
      | .row hh off n c => match mx with
        | none => optNatW 0 lo fun l => optNatW n hi fun h => cIf (decide (l ≤ h)) (cIf (decide (h ≤ c)) (k (.row hh (if c = l then off else off + l * z) (h - l) (c - l))) False) False
        | some _ => False
      | _ => False
    | none => False
  | _ => optW (sliceA C.pc t x lo hi mx) k

def pureW (S : St) (ev : Operand → AV) (o : Op) (k : AV → Prop) : Prop := match o with
  | .load t a => loadW C S t (ev a) k
  | .indexAddr t x i => indexAddrW C t (ev x) (ev i) k
  | .index t x i => indexW C t (ev x) (ev i) k
  | .slice t x lo hi mx => sliceW C t (ev x) (lo.map ev) (hi.map ev) (mx.map ev) k
  | .pick c a b => match ev c with
    | .bool t => cIf t (k (ev a)) (k (ev b))
    | _ => False
  | .binOp op t x y r => match op with
    | .add => match ev x, ev y with
      | .str a, .str b => cIf (decide (a.length + b.length ≤ 9223372036854775807)) (k (.str (a ++ b))) False
      | _, _ => optW (pureOp C.pc S ev (.binOp .add t x y r)) k
    | op => optW (pureOp C.pc S ev (.binOp op t x y r)) k
  | o => optW (pureOp C.pc S ev o) k

def srcW (S : St) (sz : Nat) (tx : TypeId) (x : AV) (k : Nat × List AV → Prop) : Prop := match x with
  | .vs l n _ => match C.P.underlying tx with
    | some (.slice _) => cIf (decide (l.length = n * sz)) (k (n, l)) False
    | _ => False
  | x => optW (srcA C.pc S sz tx x) k
def appendW (S : St) (t tx : TypeId) (s x : AV) (k : AV → St → Prop) : Prop :=
  match C.P.underlying t with
  | some (.slice e) => match szT C.pc e, byT C.pc e, zeroA C.pc e with
    | some sz, some by', some _ => srcW C S sz tx x fun dn => match s with
      | .vs l n tk =>
        cIf (dn.2.all AV.one) (cIf (decide ((n + dn.1) * by' ≤ 140737488355328)) (cIf (decide (n + dn.1 ≤ 140737488355328)) (cIf (decide (l.length = n * sz)) (cIf (decide (0 < sz))
          (cIf (decide (dn.1 = 0)) (k (.vs l n tk) S) (match tk with
            | .zero => cIf (decide (n = 0)) (k (.vs dn.2 dn.1 (.own S.ts.length)) { S with ts := S.ts ++ [(dn.1, (sz, e))] }) False
            | .own j => cIf (decide (S.ts[j]? = some (n, (sz, e)))) (k (.vs (l ++ dn.2) (n + dn.1) (.own j)) { S with ts := S.ts.set j (n + dn.1, (sz, e)) }) False
            | .none => False)) False) False) False) False) False
      | _ => False
    | _, _, _ => False
  | _ => False

def writeW (t : TypeId) (l : List AV) (off : Nat) (v : AV) (k : List AV → Prop) : Prop :=
  match szT C.pc t with
  | some n => cIf (decide (v.cells.length = n)) (cIf (decide (off + n ≤ l.length)) (cIf (v.cells.all AV.one) (k (putL l off v.cells)) False) False) False
  | none => False

def memW (S : St) (ev : Operand → AV) (o : Op) (k : AV → St → Prop) : Prop := match o with
  | .box t x => cIf ((ev x).cells.all AV.one) (k (.ptr S.hs.length 0) (S.push (.cells (ev x).cells t))) False
  | .store t a x => match ev a with
    | .ptr h off => match blockOf S h with
      | some (l, bt) => writeW C t l off (ev x) fun l' => k .bad (S.put h (.cells l' bt))
      | none => False
    | _ => False
  | .makeSlice t n c => match C.P.underlying t with
    | some (.slice e) => match szT C.pc e, byT C.pc e, zeroA C.pc e, (ev n), (ev c) with
      | some (sz + 1), some by', some z, .int .i64 n, .int .i64 c =>
        cIf (decide (0 ≤ n)) (cIf (decide (n ≤ c)) (cIf (decide (c * by' ≤ 140737488355328)) (cIf (decide (c ≤ 140737488355328)) (k (.row S.hs.length 0 n.toNat c.toNat) (S.push (.cells (zerosA z c.toNat) e))) False) False) False) False
      | _, _, _, _, _ => False
    | _ => False
  | .next it isStr => match ev it with
    | .ptr h 0 => match S.hs[h]? with
      | some (some (.iter s pos)) => match isStr with
          | true => cIf (decide (pos < s.length)) (k (.tup [.bool true, .int .i64 pos, .int .i32 (Utf8.decode ⟨s.toArray⟩ pos).1]) (S.put h (.iter s (pos + (Utf8.decode ⟨s.toArray⟩ pos).2)))) (k (.tup [.bool false]) S)
          | false => False
      | _ => False
    | _ => False
  | .call c => match c.callee with
    | .builtin .append => match c.args.toList, c.argTypes.toList with
      | [s, x], [t, tx] => appendW C S t tx (ev s) (ev x) k
      | _, _ => False
    | _ => False
  | o => optW (stOp C.pc S ev o) fun p => k p.1 p.2

def callW (g : FuncId) (args : List AV) (S : St) (k : CR → St → Prop) : Prop :=
  match C.nat g args with
  | some v => k (.ret v) S
  | none => match C.hw g with
    | some W => W args S k
    | none => False

/-- Which operations are pure ones. -/
def isPure : Op → Bool
  | .move _ | .assign _ | .pick .. | .build .. | .load .. | .nilCheck .. | .binOp .. | .unOp .. | .makeInterface .. | .makeFunc .. | .slice .. | .fieldAddr .. | .field .. | .indexAddr .. | .index .. | .lookup .. | .typeAssert .. | .extract .. => true
  | .call c => match c.callee with
    | .builtin .append => false
    | .builtin _ => true
    | _ => false
  | _ => false

def opW (S : St) (ev : Operand → AV) (o : Op) (k : CR → St → Prop) : Prop :=
  match isPure o with
  | true => pureW C S ev o fun v => k (.ret v) S
  | false => match o with
    | .call c => match c.callee with
      | .value f => match ev f with
        | .fn (.func g) a b => callW C g (a ++ c.args.toList.map ev ++ b) S k
        | _ => False
      | _ => memW C S ev (.call c) fun v S' => k (.ret v) S'
    | .panic x => match ev x with
      | .ifc t v => k (.pan (.ifc t v)) S
      | _ => False
    | .convert src dst x => match pureOp C.pc S ev (.convert src dst x) with
      | some v => k (.ret v) S
      | none => optW (stOp C.pc S ev (.convert src dst x)) fun p => k (.ret p.1) p.2
    | o => memW C S ev o fun v S' => k (.ret v) S'
end
end Go.Ev
/-! Ev.Wp2 -/
set_option linter.unusedVariables false
set_option linter.unusedSimpArgs false
namespace Go.Ev
section
variable {C : WCx} {sf : Self}

theorem natW_ok {a : AV} {k : Nat → Prop} (h : natW a k) : ∃ n, a.nat? = some n ∧ k n := by
  unfold natW at h
  split at h
  · obtain ⟨h1, h2⟩ := cIf_and h
    exact ⟨_, by simp only [AV.nat?]; rw [if_pos (of_decide_eq_true h1)], h2⟩
  · exact h.elim
theorem optNatW_ok {d : Nat} {a : Option AV} {k : Nat → Prop} (h : optNatW d a k) : ∃ n, optNat d a = some n ∧ k n := by
  cases a with
  | none => exact ⟨d, rfl, h⟩
  | some a => exact natW_ok h
theorem readW_ok {t : TypeId} {l : List AV} {off : Nat} {k : AV → Prop} (h : readW C t l off k) : ∃ v, readAt C.pc t l off = some v ∧ k v := by
  unfold readW at h
  unfold readAt
  split at h
  · rename_i h1 h2
    obtain ⟨h3, h4⟩ := cIf_and h
    exact ⟨_, by rw [h1, h2]; simp only []; rw [if_pos (of_decide_eq_true h3)]; rfl, h4⟩
  · rename_i h1 h2
    obtain ⟨v, h3, h4⟩ := optW_elim h
    exact ⟨v, by rw [h1, h2]; exact h3, h4⟩
  · exact h.elim
theorem wrapAt_eq {z : AV} {E : List AV} {j : Nat} (h : likeOk z (E.getD j .bad) = true) : wrapAt z E j = E.getD j .bad := by
  unfold wrapAt
  cases z <;> simp only [cI, cB, cS, cL, cN, cT] <;> generalize E.getD j .bad = v at h ⊢ <;> cases v <;> simp [likeOk] at h <;> simp [AV.toInt, AV.toBool, AV.toStr, AV.toL, AV.toN, AV.toTk, *]
theorem wrapsFrom_eq (E : List AV) : ∀ (zs : List AV) (j : Nat), like zs (E.drop j) = true → wrapsFrom zs E j = E.drop j
  | [], j, h => by
    simp only [wrapsFrom]
    cases hd : E.drop j with
    | nil => rfl
    | cons a l => rw [hd] at h; simp [like] at h
  | z :: zs, j, h => by
    simp only [wrapsFrom]
    cases hd : E.drop j with
    | nil => rw [hd] at h; simp [like] at h
    | cons a l =>
      rw [hd] at h
      simp only [like, Bool.and_eq_true] at h
      have hl : j < E.length := by
        rcases Nat.lt_or_ge j E.length with h1 | h1
        · exact h1
        · rw [List.drop_eq_nil_of_le h1] at hd; cases hd
      have h2 := List.drop_eq_getElem_cons hl
      rw [hd] at h2
      simp only [List.cons.injEq] at h2
      have h3 : E.getD j .bad = a := by simp [List.getD_eq_getElem?_getD, List.getElem?_eq_getElem hl, h2.1]
      rw [wrapAt_eq (by rw [h3]; exact h.1), h3, wrapsFrom_eq E zs (j + 1) (by rw [← h2.2]; exact h.2), ← h2.2]
theorem readT_ok {t : TypeId} {l : List AV} {off : Nat} {k : AV → Prop} (h : readT C t l off k) : ∃ v, readAt C.pc t l off = some v ∧ k v := by
  unfold readT at h
  unfold readAt
  split at h
  · rename_i h1 h2 h5
    obtain ⟨h3, h⟩ := cIf_and h
    obtain ⟨h4, h⟩ := cIf_and h
    have := wrapsFrom_eq _ _ 0 (by rw [List.drop_zero]; exact h4)
    rw [List.drop_zero] at this
    rw [this] at h
    exact ⟨_, by rw [h1, h2]; simp only []; rw [if_pos (of_decide_eq_true h3)]; rfl, h⟩
  · rename_i h1 h2 h5
    obtain ⟨h3, h⟩ := cIf_and h
    obtain ⟨h4, h⟩ := cIf_and h
    have h3 := of_decide_eq_true h3
    rw [wrapAt_eq h4] at h
    refine ⟨l[off], by rw [h1, h2]; exact List.getElem?_eq_getElem h3, ?_⟩
    simpa [List.getD_eq_getElem?_getD, List.getElem?_eq_getElem h3] using h
  · exact h.elim
theorem loadW_ok {S : St} {t : TypeId} {a : AV} {k : AV → Prop} (h : loadW C S t a k) : ∃ v, loadA C.pc S t a = some v ∧ k v := by
  unfold loadW at h
  unfold loadA
  split at h
  · split at h
    · rename_i h1
      simp only [h1]
      split at h
      · exact readT_ok h
      · exact readW_ok h
    · exact h.elim
  · exact readT_ok h
  · exact h.elim
theorem indexAddrW_ok {t : TypeId} {x i : AV} {k : AV → Prop} (h : indexAddrW C t x i k) : ∃ v, indexAddrA C.pc t x i = some v ∧ k v := by
  unfold indexAddrW at h
  obtain ⟨j, hj, h⟩ := natW_ok h
  unfold indexAddrA
  rw [hj]
  simp only
  split at h
  · rename_i len e hu
    rw [show C.pc.P.underlying t = _ from hu]
    simp only
    split at h
    · rename_i n hn
      rw [hn]
      obtain ⟨h1, h⟩ := cIf_and h
      simp only [if_pos (of_decide_eq_true h1)]
      split at h
      · exact ⟨_, rfl, h⟩
      · exact ⟨_, rfl, h⟩
      · exact h.elim
    · exact h.elim
  · rename_i e hu
    rw [show C.pc.P.underlying t = _ from hu]
    simp only
    split at h
    · rename_i n hn
      rw [hn]
      simp only
      split at h
      · obtain ⟨h1, h⟩ := cIf_and h
        obtain ⟨h2, h⟩ := cIf_and h
        obtain ⟨h3, h⟩ := cIf_and h
        exact ⟨_, by simp only []; rw [if_pos ⟨of_decide_eq_true h1, of_decide_eq_true h2, of_decide_eq_true h3⟩], h⟩
      · obtain ⟨h1, h⟩ := cIf_and h
        exact ⟨_, by simp only []; rw [if_pos (of_decide_eq_true h1)], h⟩
      · exact h.elim
    · exact h.elim
  · exact h.elim
theorem indexW_ok {t : TypeId} {x i : AV} {k : AV → Prop} (h : indexW C t x i k) : ∃ v, indexA C.pc t x i = some v ∧ k v := by
  unfold indexW at h
  obtain ⟨j, hj, h⟩ := natW_ok h
  unfold indexA
  rw [hj]
  simp only
  split at h
  · rename_i len e hu
    rw [show C.pc.P.underlying t = _ from hu]
    simp only
    split at h
    · rename_i n hn
      rw [hn]
      simp only
      split at h
      · obtain ⟨h1, h⟩ := cIf_and h
        simp only [if_pos (of_decide_eq_true h1)]
        exact readW_ok h
      · exact h.elim
    · exact h.elim
  · rename_i hu
    rw [show C.pc.P.underlying t = _ from hu]
    simp only
    split at h
    · rename_i s
      obtain ⟨h1, h⟩ := cIf_and h
      have h1 := of_decide_eq_true h1
      simp only [List.getElem?_eq_getElem h1]
      refine ⟨_, rfl, ?_⟩
      simpa [List.getD_eq_getElem?_getD, List.getElem?_eq_getElem h1] using h
    · exact h.elim
  · exact h.elim
theorem sliceW_ok {t : TypeId} {x : AV} {lo hi mx : Option AV} {k : AV → Prop} (h : sliceW C t x lo hi mx k) : ∃ v, sliceA C.pc t x lo hi mx = some v ∧ k v := by
  unfold sliceW at h
  split at h
  · rename_i hu
    split at h
    · split at h
      · exact h.elim
      · obtain ⟨l, hl, h⟩ := optNatW_ok h
        obtain ⟨m, hm, h⟩ := optNatW_ok h
        obtain ⟨h1, h⟩ := cIf_and h
        obtain ⟨h2, h⟩ := cIf_and h
        refine ⟨_, ?_, h⟩
        unfold sliceA
        rw [show C.pc.P.underlying t = _ from hu]
        simp only [hl, hm]
        rw [if_pos ⟨of_decide_eq_true h1, of_decide_eq_true h2⟩]
    · exact h.elim
  · rename_i e hu
    split at h
    · rename_i z hz
      split at h
      · split at h
        · obtain ⟨l, hl, h⟩ := optNatW_ok h
          obtain ⟨m, hm, h⟩ := optNatW_ok h
          obtain ⟨h1, h⟩ := cIf_and h
          obtain ⟨h2, h⟩ := cIf_and h
          refine ⟨_, ?_, h⟩
          unfold sliceA
          rw [show C.pc.P.underlying t = _ from hu]
          simp only [hz, hl, hm]
          rw [if_pos ⟨of_decide_eq_true h1, of_decide_eq_true h2⟩]
        · exact optW_elim h
      · split at h
        · obtain ⟨l, hl, h⟩ := optNatW_ok h
          obtain ⟨m, hm, h⟩ := optNatW_ok h
          obtain ⟨h1, h⟩ := cIf_and h
          obtain ⟨h2, h⟩ := cIf_and h
          refine ⟨_, ?_, h⟩
          unfold sliceA
          rw [show C.pc.P.underlying t = _ from hu]
          simp only [hz, hl, hm]
          rw [if_pos ⟨of_decide_eq_true h1, of_decide_eq_true h2⟩]
        · exact h.elim
      · exact h.elim
    · exact h.elim
  · exact optW_elim h

theorem fieldsEq_cx : ∀ (fs : List Field) (l m : List AV), fieldsEq C.cx fs l m = fieldsEq C.pc fs l m
  | [], l, m => by cases l <;> cases m <;> rfl
  | f :: fs, [], m => by cases m <;> rfl
  | f :: fs, a :: l, [] => rfl
  | f :: fs, a :: l, b :: m => by simp only [fieldsEq, fieldsEq_cx fs]; rfl
theorem flatF_cx : ∀ (fs : List Field), flatF C.cx fs = flatF C.pc fs
  | [] => rfl
  | f :: fs => by simp only [flatF, flatF_cx fs]; rfl
theorem binA_cx (op : BinOp) (t : TypeId) (cst : Bool) (x y : AV) : binA C.cx op t cst x y = binA C.pc op t cst x y := by
  have he : ∀ x y, eqA C.cx t cst x y = eqA C.pc t cst x y := by
    intro x y
    unfold eqA
    simp only [fieldsEq_cx, flatF_cx]
    rfl
  unfold binA
  simp only [he]
theorem pureOp_cx (S : St) (ev : Operand → AV) (o : Op) : pureOp C.cx S ev o = pureOp C.pc S ev o := by
  cases o
  case binOp => simp only [pureOp, binA_cx]
  all_goals rfl
theorem stOp_cx (S : St) (ev : Operand → AV) (o : Op) : stOp C.cx S ev o = stOp C.pc S ev o := by cases o <;> rfl
theorem evalA_cx (env : Env) : evalA C.cx env = evalA C.pc env := rfl

theorem pureW_ok {S : St} {ev : Operand → AV} {o : Op} {k : AV → Prop} (h : pureW C S ev o k) : ∃ v, pureOp C.cx S ev o = some v ∧ k v := by
  rw [pureOp_cx]
  unfold pureW at h
  split at h
  · simp only [pureOp]; exact loadW_ok h
  · simp only [pureOp]; exact indexAddrW_ok h
  · simp only [pureOp]; exact indexW_ok h
  · simp only [pureOp]; exact sliceW_ok h
  · simp only [pureOp]
    split at h
    · rename_i t ht
      rcases cIf_elim h with ⟨rfl, h⟩ | ⟨rfl, h⟩
      · exact ⟨_, by rw [ht]; rfl, h⟩
      · exact ⟨_, by rw [ht]; rfl, h⟩
    · exact h.elim
  · split at h
    · split at h
      · rename_i a b ha hb
        obtain ⟨q, h⟩ := cIf_and h
        refine ⟨_, ?_, h⟩
        simp only [pureOp, ha, hb, binA, strBinA]
        rw [if_pos (of_decide_eq_true q)]
      · exact optW_elim h
    · exact optW_elim h
  · exact optW_elim h

theorem srcW_ok {S : St} {sz : Nat} {tx : TypeId} {x : AV} {k : Nat × List AV → Prop} (h : srcW C S sz tx x k) : ∃ dn, srcA C.pc S sz tx x = some dn ∧ k dn := by
  unfold srcW at h
  split at h
  · rename_i l n t
    split at h
    · rename_i e hu
      obtain ⟨q1, h⟩ := cIf_and h
      refine ⟨_, ?_, h⟩
      unfold srcA
      rw [show C.pc.P.underlying tx = _ from hu]
      simp only [cellsOfA]
      rw [if_pos (of_decide_eq_true q1)]
    · exact h.elim
  · obtain ⟨dn, h1, h2⟩ := optW_elim h
    exact ⟨dn, h1, h2⟩
theorem appendW_ok {S : St} {t tx : TypeId} {s x : AV} {k : AV → St → Prop} (h : appendW C S t tx s x k) : ∃ v S', appendA C.pc S t tx s x = some (v, S') ∧ k v S' := by
  unfold appendW at h
  unfold appendA
  split at h
  · rename_i e hu
    rw [show C.pc.P.underlying t = _ from hu]
    simp only
    split at h
    · rename_i sz by' z h1 h2 h3
      rw [h1, h2, h3]
      simp only
      obtain ⟨⟨d, news⟩, h4, h⟩ := srcW_ok h
      rw [h4]
      split at h
      · rename_i l n tk _
        simp only at h ⊢
        obtain ⟨q1, h⟩ := cIf_and h
        obtain ⟨q2, h⟩ := cIf_and h
        obtain ⟨q3, h⟩ := cIf_and h
        obtain ⟨q4, h⟩ := cIf_and h
        obtain ⟨q5, h⟩ := cIf_and h
        rw [if_pos ⟨q1, of_decide_eq_true q2, of_decide_eq_true q3, of_decide_eq_true q4, of_decide_eq_true q5⟩]
        rcases cIf_elim h with ⟨q6, h⟩ | ⟨q6, h⟩
        · rw [if_pos (of_decide_eq_true q6)]; exact ⟨_, _, rfl, h⟩
        · rw [if_neg (of_decide_eq_false q6)]
          cases tk with
          | zero => obtain ⟨q7, h⟩ := cIf_and h; simp only; rw [if_pos (of_decide_eq_true q7)]; exact ⟨_, _, rfl, h⟩
          | own j => obtain ⟨q7, h⟩ := cIf_and h; simp only; rw [if_pos (of_decide_eq_true q7)]; exact ⟨_, _, rfl, h⟩
          | none => exact h.elim
      · exact h.elim
    · exact h.elim
  · exact h.elim
theorem writeW_ok {t : TypeId} {l : List AV} {off : Nat} {v : AV} {k : List AV → Prop} (h : writeW C t l off v k) : ∃ l', writeAt C.pc t l off v = some l' ∧ k l' := by
  unfold writeW at h
  unfold writeAt
  split at h
  · rename_i n hn
    obtain ⟨q1, h⟩ := cIf_and h
    obtain ⟨q2, h⟩ := cIf_and h
    obtain ⟨q3, h⟩ := cIf_and h
    rw [hn]
    simp only
    rw [if_pos ⟨of_decide_eq_true q1, of_decide_eq_true q2, q3⟩]
    exact ⟨_, rfl, h⟩
  · exact h.elim
theorem memW_ok {S : St} {ev : Operand → AV} {o : Op} {k : AV → St → Prop} (h : memW C S ev o k) : ∃ v S', stOp C.cx S ev o = some (v, S') ∧ k v S' := by
  rw [stOp_cx]
  unfold memW at h
  split at h
  · obtain ⟨q1, h⟩ := cIf_and h
    simp only [stOp]
    rw [if_pos q1]
    exact ⟨_, _, rfl, h⟩
  · simp only [stOp]
    split at h
    · rename_i hh off ha
      rw [ha]
      simp only
      split at h
      · rename_i l bt hb
        rw [hb]
        simp only
        obtain ⟨l', q1, h⟩ := writeW_ok h
        rw [q1]
        exact ⟨_, _, rfl, h⟩
      · exact h.elim
    · exact h.elim
  · simp only [stOp]
    split at h
    · rename_i e hu
      rw [show C.pc.P.underlying _ = _ from hu]
      simp only
      split at h
      · rename_i h1 h2 h3 h4 h5
        rw [h1, h2, h3, h4, h5]
        obtain ⟨q1, h⟩ := cIf_and h
        obtain ⟨q2, h⟩ := cIf_and h
        obtain ⟨q3, h⟩ := cIf_and h
        obtain ⟨q4, h⟩ := cIf_and h
        simp only
        rw [if_pos ⟨of_decide_eq_true q1, of_decide_eq_true q2, of_decide_eq_true q3, of_decide_eq_true q4⟩]
        exact ⟨_, _, rfl, h⟩
      · exact h.elim
    · exact h.elim
  · simp only [stOp]
    split at h
    · rename_i hh ha
      rw [ha]
      simp only
      split at h
      · rename_i s pos hb
        rw [hb]
        simp only
        split at h
        · rcases cIf_elim h with ⟨q1, h⟩ | ⟨q1, h⟩
          · simp only [if_true]
            rw [if_pos (of_decide_eq_true q1)]
            exact ⟨_, _, rfl, h⟩
          · simp only [if_true]
            rw [if_neg (of_decide_eq_false q1)]
            exact ⟨_, _, rfl, h⟩
        · exact h.elim
      · exact h.elim
    · exact h.elim
  · simp only [stOp]
    split at h
    · rename_i hc
      rw [hc]
      simp only
      split at h
      · rename_i h1 h2
        rw [h1, h2]
        exact appendW_ok h
      · exact h.elim
    · exact h.elim
  · obtain ⟨⟨v, S'⟩, h1, h2⟩ := optW_elim h
    exact ⟨v, S', h1, h2⟩

/-- The hooks have one outcome each. -/
def WCx.Ones (C : WCx) : Prop := ∀ g W, C.hw g = some W → One W

theorem callW_ok (ho : C.Ones) {g : FuncId} {args : List AV} {S : St} {k : CR → St → Prop} (h : callW C g args S k) : ∃ r S', callN C.cx sf g args S = some (r, S') ∧ k r S' := by
  unfold callW at h
  unfold callN
  rw [show C.cx.nat = C.nat from rfl]
  split at h
  · rename_i v hv
    rw [hv]
    exact ⟨_, _, rfl, h⟩
  · rename_i hv
    rw [hv]
    simp only
    split at h
    · rename_i W hW
      unfold callA
      rw [show C.cx.hk g = some (hookOf W) by simp [WCx.cx, hW]]
      exact (ho g W hW).hook h
    · exact h.elim

theorem opW_ok (ho : C.Ones) {S : St} {ev : Operand → AV} {o : Op} {k : CR → St → Prop} (h : opW C S ev o k) : ∃ r S', opA C.cx sf S ev o = some (r, S') ∧ k r S' := by
  unfold opW at h
  split at h
  · rename_i hp
    obtain ⟨v, h1, h2⟩ := pureW_ok h
    refine ⟨.ret v, S, ?_, h2⟩
    cases o <;> simp only [isPure] at hp <;> try cases hp
    case call c =>
      unfold opA
      cases hc : c.callee with
      | builtin b => simp only [h1, hc]
      | _ => rw [hc] at hp; cases hp
    all_goals (unfold opA; simp only [h1])
  · rename_i hp
    split at h
    · rename_i c
      split at h
      · rename_i f hc
        unfold opA
        simp only [hc]
        split at h
        · rename_i g a b hf
          rw [hf]
          exact callW_ok ho h
        · exact h.elim
      · rename_i hne
        obtain ⟨v, S', h1, h2⟩ := memW_ok h
        refine ⟨.ret v, S', ?_, h2⟩
        unfold opA
        have hnone : pureOp C.cx S ev (.call c) = none := by
          unfold pureOp
          cases hc : c.callee with
          | builtin b => cases b <;> simp_all [stOp]
          | _ => simp only [hc]
        cases hc : c.callee with
        | value f => exact absurd hc (hne f)
        | _ => simp only [hc, hnone, h1]
    · split at h
      · rename_i x t v hx
        unfold opA
        simp only [hx]
        exact ⟨_, _, rfl, h⟩
      · exact h.elim
    · unfold opA
      simp only
      split at h
      · rename_i v hv
        rw [pureOp_cx, hv]
        exact ⟨_, _, rfl, h⟩
      · rename_i hv
        obtain ⟨⟨v, S'⟩, h1, h2⟩ := optW_elim h
        rw [pureOp_cx, hv, stOp_cx, h1]
        exact ⟨_, _, rfl, h2⟩
    · rename_i h1 h2 h3
      obtain ⟨v, S', h4, h5⟩ := memW_ok h
      refine ⟨.ret v, S', ?_, h5⟩
      have hnone : pureOp C.cx S ev o = none := by
        cases o <;> simp_all [isPure, pureOp]
      cases o <;> simp_all [opA]
end
end Go.Ev
/-! Ev.Wp3 -/
set_option linter.unusedVariables false
set_option linter.unusedSimpArgs false
namespace Go.Ev
abbrev Kont := EX → Env → St → Prop

section
variable (C : WCx)
def wpOps (ops : Array Oper) : List Oper → Env → St → Kont → Prop
  | [], env, S, k => k .normal env S
  | o :: rest, env, S, k => match o.guard with
    | none => opW C S (evalA C.pc env) o.op fun r S' => match r with
      | .ret v => wpOps ops rest (putA env o.dst v) S' k
      | .pan v => k (.pan v) env S'
    | some (j, want) => match (ops[j]?).bind (·.dst) with
      | some d => match env.getD d .bad with
        | .bool b => cIf (decide (d < env.length)) (cIf b
            (match want with
              | true => opW C S (evalA C.pc (env.set d (.bool true))) o.op fun r S' => match r with
                | .ret v => wpOps ops rest (putA (env.set d (.bool true)) o.dst v) S' k
                | .pan v => k (.pan v) (env.set d (.bool true)) S'
              | false => wpOps ops rest (putA (env.set d (.bool true)) o.dst (.tup [])) S k)
            (match want with
              | false => opW C S (evalA C.pc (env.set d (.bool false))) o.op fun r S' => match r with
                | .ret v => wpOps ops rest (putA (env.set d (.bool false)) o.dst v) S' k
                | .pan v => k (.pan v) (env.set d (.bool false)) S'
              | true => wpOps ops rest (putA (env.set d (.bool false)) o.dst (.tup [])) S k)) False
        | .tup [] => cIf (decide (d < env.length)) (wpOps ops rest (putA env o.dst (.tup [])) S k) False
        | _ => False
      | none => False

def drawW (ops : Array Oper) (S0 S : St) (D : DN) (j : Nat) (ev : Operand → AV) (o : Op) (k : AV → St → DN → Prop) : Prop :=
  match o with
  | .store t a x => match ev a with
    | .ptr h off => cIf (orderedAll ops j h D.lds) (cIf (orderedAll ops j h D.sts) (memW C S ev (.store t a x) fun v S' => k v S' { D with sts := (j, h) :: D.sts }) False) False
    | _ => False
  | .alloc t => memW C S ev (.alloc t) fun v S' => k v S' { D with sts := (j, S.hs.length) :: D.sts }
  | .box t x => memW C S ev (.box t x) fun v S' => k v S' { D with sts := (j, S.hs.length) :: D.sts }
  | .load t a => match ev a with
    | .ptr h off => cIf (notIn h D.sts) (loadW C S0 t (.ptr h off) fun v => k v S { D with lds := (j, h) :: D.lds }) False
    | x => loadW C S0 t x fun v => k v S D
  | .buildSlice t len parts => optW (sliceLitA C.pc t len (parts.toList.map fun p => (p.1, ev p.2))) fun p => k (.vs p.1 len .none) S D
  | .call c => match c.callee with
    | .value f => match ev f with
      | .fn (.func g) a b => cIf (noHL S0.hs.length (a ++ c.args.toList.map ev ++ b)) (callW C g (a ++ c.args.toList.map ev ++ b) S0 fun r S1 => match r with
        | .ret v => S1 = S0 ∧ k v S D
        | .pan _ => False) False
      | _ => False
    | .builtin .append => match c.args.toList with
      | [_, x] => match ev x with
        | .row _ _ _ _ => False
        | _ => memW C S ev (.call c) fun v S' => k v S' D
      | _ => False
    | _ => pureW C S0 ev (.call c) fun v => k v S D
  | o => pureW C S0 ev o fun v => k v S D

def wpDraw (ops : Array Oper) (S0 : St) : List Oper → Nat → Env → St → DN → (Env → St → Prop) → Prop
  | [], _, env, S, _, k => k env S
  | o :: rest, j, env, S, D, k => match o.guard with
    | none => drawW C ops S0 S D j (maskA C.pc (o.looksAt ops) env) o.op fun v S' D' => wpDraw ops S0 rest (j + 1) (putA env o.dst v) S' D' k
    | some (g, want) => match (ops[g]?).bind (·.dst) with
      | some d => match env.getD d .bad with
        | .bool b => cIf (decide (d < env.length)) (cIf b
            (match want with
              | true => drawW C ops S0 S D j (maskA C.pc (o.looksAt ops) (env.set d (.bool true))) o.op fun v S' D' => wpDraw ops S0 rest (j + 1) (putA (env.set d (.bool true)) o.dst v) S' D' k
              | false => wpDraw ops S0 rest (j + 1) (putA (env.set d (.bool true)) o.dst (.tup [])) S D k)
            (match want with
              | false => drawW C ops S0 S D j (maskA C.pc (o.looksAt ops) (env.set d (.bool false))) o.op fun v S' D' => wpDraw ops S0 rest (j + 1) (putA (env.set d (.bool false)) o.dst v) S' D' k
              | true => wpDraw ops S0 rest (j + 1) (putA (env.set d (.bool false)) o.dst (.tup [])) S D k)) False
        | .tup [] => cIf (decide (d < env.length)) (wpDraw ops S0 rest (j + 1) (putA env o.dst (.tup [])) S D k) False
        | _ => False
      | none => False

/-- The number of the region that stands first. -/
def firstId : Code → Option Nat
  | .region id _ _ => some id
  | .seq a _ => firstId a
  | .block _ c => firstId c
  | .loop c => firstId c
  | _ => none
def maskFrom (L : List Nat) : Nat → Env → Env
  | _, [] => []
  | i, v :: env => (match L.contains i with | true => v | false => .bad) :: maskFrom L (i + 1) env
def WCx.mask (c : Code) (env : Env) : Env := match firstId c with
  | some id => match C.lm id with
    | some L => maskFrom L 0 env
    | none => env
  | none => env

/-- No handles and tokens. -/
def Gh.Under (n : Nat) (G : Gh) : Prop := (∀ h, n ≤ h → G.σ h = none) ∧ ∀ k, G.tk k = none
/-- What becomes of code, in a function that began in an empty state. -/
structure CSem (C : Cx) (nb : Nat) (c : Code) (env : Env) (S : St) (x : EX) (e : Env) (s : St) : Prop where
  run : okC c = true → ∀ G0 w0, G0.Under nb → GtR C G0 w0 → ∀ rd n ds G w a, Evo G0 w0 G w → Inv G w S → ER G w env a → a.defers = ds → ∀ (Q : Exit → Act → World → Prop), (∀ e' a' w', CodePost ds G0 w0 x e s e' a' w' → Q e' a' w') → c.wpIn (WF rd) n C.P Q a w
structure LSem (C : Cx) (nb : Nat) (c : Code) (env : Env) (S : St) (x : EX) (e : Env) (s : St) : Prop where
  run : okC c = true → ∃ m, ∀ G0 w0, G0.Under nb → GtR C G0 w0 → ∀ rd n ds G w a, Evo G0 w0 G w → Inv G w S → ER G w env a → a.defers = ds → Code.roundsIn (WF rd) n C.P c (CodePost ds G0 w0 x e s) m a w
def okBlk (m : Nat) : Option HB → Bool
  | some b => noHB m b
  | none => true
/-- The blocks that are still needed. -/
def WCx.keep (c : Code) (env : Env) (S : St) (k : St → Prop) : Prop := match firstId c with
  | some id => match C.sm id with
    | some m => match Nat.ble C.bs m with
      | true => cIf (noHL m env) (cIf ((S.hs.take m).all (okBlk m)) (k ⟨S.hs.take m, S.ts, []⟩) False) False
      | false => False
    | none => k ⟨S.hs, S.ts, []⟩
  | none => k ⟨S.hs, S.ts, []⟩
/-- Code that is to be run. -/
def WCut (c : Code) (env : Env) (S : St) (k : Kont) : Prop := ∃ x e s, CSem C.pc C.bs c env S x e s ∧ k x e s
def WCx.cut (c : Code) : Bool := match firstId c with
  | some id => C.ct id
  | none => false
/-- A loop is to be run. -/
def WLoop (c : Code) (env : Env) (S : St) (k : Kont) : Prop := ∃ x e s, LSem C.pc C.bs c env S x e s ∧ k x e s

def wpC : Code → Env → St → Kont → Prop
  | .skip, env, S, k => k .normal env S
  | .region _ ops false, env, S, k => wpOps C ops ops.toList env S k
  | .region _ ops true, env, S, k => match finOk ops with
    | true => wpDraw C ops S (ops.toList.take (ops.size - 1)) 0 env S ⟨[], []⟩ fun env' S' => wpOps C ops (ops.toList.drop (ops.size - 1)) env' S' k
    | false => wpDraw C ops S (ops.toList.take ops.size) 0 env S ⟨[], []⟩ fun env' S' => k .normal env' S'
  | .seq a b, env, S, k => wpC a env S fun x e s => match x with
    | .normal => match C.cut b with
      | true => C.keep b (C.mask b e) s fun s => WCut C b (C.mask b e) s k
      | false => wpC b (C.mask b e) s k
    | x => k x e s
  | .cond c t e, env, S, k => match evalA C.pc env c with
    | .bool b => cIf b (wpC t env S k) (wpC e env S k)
    | _ => False
  | .block id c, env, S, k => wpC c env S fun x e s => match x with
    | .exit i => cIf (decide (i = id)) (k .normal e s) (k (.exit i) e s)
    | x => k x e s
  | .loop c, env, S, k => C.keep c (C.mask c env) S fun S => WLoop C c (C.mask c env) S k
  | .exit id, env, S, k => k (.exit id) env S
  | .ret, env, S, k => k .ret env S
  | _, _, _, _ => False

def kSeq (b : Code) (k : Kont) : Kont := fun x e s => match x with
  | .normal => match C.cut b with
    | true => C.keep b (C.mask b e) s fun s => WCut C b (C.mask b e) s k
    | false => wpC C b (C.mask b e) s k
  | x => k x e s
def kBlock (id : Nat) (k : Kont) : Kont := fun x e s => match x with
  | .exit i => cIf (decide (i = id)) (k .normal e s) (k (.exit i) e s)
  | x => k x e s
def kLoop (c : Code) (k : Kont) : Kont := fun x e s => match x with
  | .normal => C.keep c (C.mask c e) s fun s => WLoop C c (C.mask c e) s k
  | x => k x e s
/-- What becomes of a call that began in an empty state. -/
def kRet (g : FuncId) (Q : CR → Prop) : Kont := fun x e s => match C.P.funcs[g]? with
  | some fn => match x with
    | .normal => optW (resultsA C.pc fn e s) fun r => optW (pub C.pc s.hs 0 r) fun r' => Q (.ret (scrub 0 r'))
    | .ret => optW (resultsA C.pc fn e s) fun r => optW (pub C.pc s.hs 0 r) fun r' => Q (.ret (scrub 0 r'))
    | .pan v => optW (pub C.pc s.hs 0 v) fun r' => Q (.pan (scrub 0 r'))
    | _ => False
  | none => False
def wpF (g : FuncId) (args : List AV) (Q : CR → Prop) : Prop := match C.P.funcs[g]? with
  | some fn => match fn.body with
    | some c => wpC C c (args ++ List.replicate (fn.ntmps - args.length) .bad) St.nil (kRet C g Q)
    | none => False
  | none => False
end

/-- A piece of a function's code. -/
def Code.at' : Code → List Nat → Code
  | c, [] => c
  | .seq a _, 0 :: p => Code.at' a p
  | .seq _ b, _ :: p => Code.at' b p
  | .cond _ a _, 0 :: p => Code.at' a p
  | .cond _ _ b, _ :: p => Code.at' b p
  | .block _ c, _ :: p => Code.at' c p
  | .loop c, _ :: p => Code.at' c p
  | .rangeFunc _ _ a _, 0 :: p => Code.at' a p
  | .rangeFunc _ _ _ b, _ :: p => Code.at' b p
  | c, _ => c
def cd (P : Program) (g : FuncId) (p : List Nat) : Code := match P.funcs[g]? with
  | some fn => match fn.body with
    | some c => Code.at' c p
    | none => .skip
  | none => .skip
end Go.Ev
/-! Ev.Wp4 -/
set_option linter.unusedVariables false
set_option linter.unusedSimpArgs false
namespace Go.Ev
section
variable {C : WCx} {sf : Self} {ops : Array Oper}

theorem loadA_cx (S : St) (t : TypeId) (a : AV) : loadA C.cx S t a = loadA C.pc S t a := rfl
theorem resA_cx (env : Env) (S : St) : ∀ l, resA C.cx env S l = resA C.pc env S l
  | [] => rfl
  | .tmp t :: l => by simp only [resA, resA_cx env S l]
  | .cell a t :: l => by simp only [resA, resA_cx env S l, loadA_cx]
theorem resultsA_cx (fn : Func) (env : Env) (S : St) : resultsA C.cx fn env S = resultsA C.pc fn env S := by
  unfold resultsA
  rw [resA_cx]
mutual
theorem pub_cx (hs : List (Option HB)) (b : Nat) : ∀ a, pub C.cx hs b a = pub C.pc hs b a
  | .agg l => by simp only [pub, pubL_cx hs b l]
  | .tup l => by simp only [pub, pubL_cx hs b l]
  | .row h off n c => rfl
  | .bad => rfl
  | .int _ _ => rfl
  | .bool _ => rfl
  | .str _ => rfl
  | .raw _ => rfl
  | .vs _ _ _ => rfl
  | .vp _ => rfl
  | .ptr _ _ => rfl
  | .mp _ => rfl
  | .fn _ _ _ => rfl
  | .ifc _ _ => rfl
theorem pubL_cx (hs : List (Option HB)) (b : Nat) : ∀ l, pubL C.cx hs b l = pubL C.pc hs b l
  | [] => rfl
  | a :: l => by simp only [pubL, pub_cx hs b a, pubL_cx hs b l]
end
theorem set_same {env : Env} {d : Nat} {b : AV} (h : env.getD d .bad = b) (hd : d < env.length) : env.set d b = env := by
  apply List.ext_getElem?
  intro i
  by_cases hi : d = i
  · subst hi
    rw [List.getElem?_set_self hd, ← h]
    simp [List.getElem?_eq_getElem hd]
  · rw [List.getElem?_set_ne hi]

theorem wpOps_ok (ho : C.Ones) : ∀ (rest : List Oper) (env : Env) (S : St) (k : Kont), wpOps C ops rest env S k → ∃ x e s, evOps C.cx sf ops rest env S = some (x, e, s) ∧ k x e s
  | [], env, S, k, h => ⟨_, _, _, rfl, h⟩
  | o :: rest, env, S, k, h => by
    have run : ∀ (env : Env), (opW C S (evalA C.pc env) o.op fun r S' => match r with
      | .ret v => wpOps C ops rest (putA env o.dst v) S' k
      | .pan v => k (.pan v) env S') → wantedA ops env o = some true → ∃ x e s, evOps C.cx sf ops (o :: rest) env S = some (x, e, s) ∧ k x e s := by
      intro env h hw
      obtain ⟨r, S', h1, h2⟩ := opW_ok (sf := sf) ho h
      simp only [evOps, hw]
      rw [evalA_cx, h1]
      cases r with
      | ret v => exact wpOps_ok ho rest _ _ _ h2
      | pan v => exact ⟨_, _, _, rfl, h2⟩
    have skip : ∀ (env : Env), wpOps C ops rest (putA env o.dst (.tup [])) S k → wantedA ops env o = some false → ∃ x e s, evOps C.cx sf ops (o :: rest) env S = some (x, e, s) ∧ k x e s := by
      intro env h hw
      simp only [evOps, hw]
      exact wpOps_ok ho rest _ _ _ h
    simp only [wpOps] at h
    split at h
    · rename_i hg
      exact run env h (by simp [wantedA, hg])
    · rename_i j want hg
      split at h
      · rename_i d hd
        split at h
        · rename_i b hb
          obtain ⟨h1, h⟩ := cIf_and h
          have h1 := of_decide_eq_true h1
          have hw : wantedA ops env o = some (b == want) := by
            simp only [wantedA, hg, hd, hb, if_pos h1]
          rcases cIf_elim h with ⟨rfl, h⟩ | ⟨rfl, h⟩
          · rw [set_same hb h1] at h
            cases want
            · exact skip env h hw
            · exact run env h hw
          · rw [set_same hb h1] at h
            cases want
            · exact run env h hw
            · exact skip env h hw
        · rename_i hb
          obtain ⟨h1, h⟩ := cIf_and h
          have h1 := of_decide_eq_true h1
          exact skip env h (by simp only [wantedA, hg, hd, hb, if_pos h1])
        · exact h.elim
      · exact h.elim

theorem drawW_ok (ho : C.Ones) {S0 S : St} {D : DN} {j : Nat} {ev : Operand → AV} {o : Op} {k : AV → St → DN → Prop} (h : drawW C ops S0 S D j ev o k) :
    ∃ v S' D', drawOp C.cx sf ops S0 S D j ev o = some (v, S', D') ∧ k v S' D' := by
  unfold drawW at h
  split at h
  · split at h
    · rename_i hh off ha
      obtain ⟨q1, h⟩ := cIf_and h
      obtain ⟨q2, h⟩ := cIf_and h
      obtain ⟨v, S', h1, h2⟩ := memW_ok h
      simp only [drawOp, ha]
      rw [if_pos ⟨q1, q2⟩, h1]
      exact ⟨_, _, _, rfl, h2⟩
    · exact h.elim
  · obtain ⟨v, S', h1, h2⟩ := memW_ok h
    simp only [drawOp, h1]
    exact ⟨_, _, _, rfl, h2⟩
  · obtain ⟨v, S', h1, h2⟩ := memW_ok h
    simp only [drawOp, h1]
    exact ⟨_, _, _, rfl, h2⟩
  · split at h
    · rename_i hh off ha
      obtain ⟨q1, h⟩ := cIf_and h
      obtain ⟨v, h1, h2⟩ := loadW_ok h
      simp only [drawOp, ha]
      rw [if_pos q1, loadA_cx, h1]
      exact ⟨_, _, _, rfl, h2⟩
    · rename_i hne
      obtain ⟨v, h1, h2⟩ := loadW_ok h
      unfold drawOp
      split <;> try (rename_i he; cases he)
      · split
        · rename_i ha; exact absurd ha (hne _ _)
        · rw [loadA_cx, h1]; exact ⟨_, _, _, rfl, h2⟩
      · rename_i h3 h4 h5 h6 h7 h8
        exact absurd rfl (h6 _ _)
  · obtain ⟨p, h1, h2⟩ := optW_elim h
    simp only [drawOp]
    rw [show sliceLitA C.cx _ _ _ = _ from h1]
    exact ⟨_, _, _, rfl, h2⟩
  · rename_i c
    split at h
    · rename_i f hc
      split at h
      · rename_i g a b hf
        obtain ⟨q1, h⟩ := cIf_and h
        obtain ⟨r, S1, h1, h2⟩ := callW_ok (sf := sf) ho h
        simp only [drawOp, hc, hf]
        rw [if_pos q1, h1]
        cases r with
        | ret v => obtain ⟨rfl, h2⟩ := h2; exact ⟨v, S, D, by simp, h2⟩
        | pan v => exact h2.elim
      · exact h.elim
    · rename_i hc
      split at h
      · rename_i s x hargs
        split at h
        · exact h.elim
        · rename_i hne
          obtain ⟨v, S', h1, h2⟩ := memW_ok h
          unfold drawOp
          split <;> try (rename_i he; cases he)
          · simp only [hc, hargs]
            cases hx : ev x with
            | row a b c d => exact absurd hx (hne _ _ _ _)
            | _ => simp only [h1]; exact ⟨_, _, _, rfl, h2⟩
          · rename_i h3 h4 h5 h6 h7 h8
            exact absurd rfl (h8 _)
      · exact h.elim
    · rename_i hn1 hn2
      obtain ⟨v, h1, h2⟩ := pureW_ok h
      unfold drawOp
      split <;> try (rename_i he; cases he)
      · split
        · rename_i hc; exact absurd hc (hn1 _)
        · rename_i hc; exact absurd hc hn2
        · rw [h1]; exact ⟨_, _, _, rfl, h2⟩
      · rename_i h3 h4 h5 h6 h7 h8
        exact absurd rfl (h8 _)
  · rename_i n1 n2 n3 n4 n5 n6
    obtain ⟨v, h1, h2⟩ := pureW_ok h
    unfold drawOp
    split
    · exact absurd rfl (n1 _ _ _)
    · exact absurd rfl (n2 _)
    · exact absurd rfl (n3 _ _)
    · exact absurd h1 (by simp [pureOp])
    · exact absurd h1 (by simp [pureOp])
    · exact absurd rfl (n4 _ _)
    · exact absurd rfl (n5 _ _ _)
    · exact absurd rfl (n6 _)
    · rw [h1]; exact ⟨_, _, _, rfl, h2⟩

theorem wpDraw_ok (ho : C.Ones) {S0 : St} : ∀ (rest : List Oper) (j : Nat) (env : Env) (S : St) (D : DN) (k : Env → St → Prop), wpDraw C ops S0 rest j env S D k → ∃ e s, evDraw C.cx sf ops S0 rest j env S D = some (e, s) ∧ k e s
  | [], j, env, S, D, k, h => ⟨_, _, rfl, h⟩
  | o :: rest, j, env, S, D, k, h => by
    have run : ∀ (env : Env), (drawW C ops S0 S D j (maskA C.pc (o.looksAt ops) env) o.op fun v S' D' => wpDraw C ops S0 rest (j + 1) (putA env o.dst v) S' D' k) → wantedA ops env o = some true →
        ∃ e s, evDraw C.cx sf ops S0 (o :: rest) j env S D = some (e, s) ∧ k e s := by
      intro env h hw
      obtain ⟨v, S', D', h1, h2⟩ := drawW_ok (sf := sf) ho h
      simp only [evDraw, hw]
      rw [show maskA C.cx (o.looksAt ops) env = maskA C.pc (o.looksAt ops) env from rfl, h1]
      exact wpDraw_ok ho rest _ _ _ _ _ h2
    have skip : ∀ (env : Env), wpDraw C ops S0 rest (j + 1) (putA env o.dst (.tup [])) S D k → wantedA ops env o = some false → ∃ e s, evDraw C.cx sf ops S0 (o :: rest) j env S D = some (e, s) ∧ k e s := by
      intro env h hw
      simp only [evDraw, hw]
      exact wpDraw_ok ho rest _ _ _ _ _ h
    simp only [wpDraw] at h
    split at h
    · rename_i hg
      exact run env h (by simp [wantedA, hg])
    · rename_i g want hg
      split at h
      · rename_i d hd
        split at h
        · rename_i b hb
          obtain ⟨h1, h⟩ := cIf_and h
          have h1 := of_decide_eq_true h1
          have hw : wantedA ops env o = some (b == want) := by
            simp only [wantedA, hg, hd, hb, if_pos h1]
          rcases cIf_elim h with ⟨rfl, h⟩ | ⟨rfl, h⟩
          · rw [set_same hb h1] at h
            cases want
            · exact skip env h hw
            · exact run env h hw
          · rw [set_same hb h1] at h
            cases want
            · exact run env h hw
            · exact skip env h hw
        · rename_i hb
          obtain ⟨h1, h⟩ := cIf_and h
          have h1 := of_decide_eq_true h1
          exact skip env h (by simp only [wantedA, hg, hd, hb, if_pos h1])
        · exact h.elim
      · exact h.elim

theorem maskFrom_ER {G : Gh} {w : World} {L : List Nat} : ∀ (env : Env) (k i : Nat) (x : AV), (maskFrom L k env)[i]? = some x → ∃ y, env[i]? = some y ∧ (x = y ∨ x = .bad)
  | [], k, i, x, h => by simp [maskFrom] at h
  | v :: env, k, 0, x, h => by
    simp only [maskFrom, List.getElem?_cons_zero, Option.some.injEq] at h
    refine ⟨v, rfl, ?_⟩
    split at h
    · exact .inl h.symm
    · exact .inr h.symm
  | v :: env, k, i + 1, x, h => by
    simp only [maskFrom, List.getElem?_cons_succ] at h ⊢
    exact maskFrom_ER (G := G) (w := w) env (k + 1) i x h
theorem maskFrom_len {L : List Nat} : ∀ (env : Env) (k : Nat), (maskFrom L k env).length = env.length
  | [], k => rfl
  | v :: env, k => by simp [maskFrom, maskFrom_len env]
theorem ER.mask {G : Gh} {w : World} {env : Env} {a : Act} (h : ER G w env a) (c : Code) : ER G w (C.mask c env) a := by
  unfold WCx.mask
  split
  · split
    · refine ⟨by rw [maskFrom_len]; exact h.1, fun i x hx => ?_⟩
      obtain ⟨y, h1, h2⟩ := maskFrom_ER (G := G) (w := w) env 0 i x hx
      rcases h2 with rfl | rfl
      · exact h.2 i x h1
      · exact .bad _
    · exact h
  · exact h
theorem CSem.mask {c : Code} {env : Env} {S : St} {x : EX} {e : Env} {s : St} (h : CSem C.pc C.bs c (C.mask c env) S x e s) : CSem C.pc C.bs c env S x e s :=
  ⟨fun hok G0 w0 hb hg rd n ds G w a hE hI he hd Q hQ => h.run hok G0 w0 hb hg rd n ds G w a hE hI (he.mask c) hd Q hQ⟩
theorem LSem.mask {c : Code} {env : Env} {S : St} {x : EX} {e : Env} {s : St} (h : LSem C.pc C.bs c (C.mask c env) S x e s) : LSem C.pc C.bs c env S x e s :=
  ⟨fun hok => let ⟨m, hm⟩ := h.run hok; ⟨m, fun G0 w0 hb hg rd n ds G w a hE hI he hd => hm G0 w0 hb hg rd n ds G w a hE hI (he.mask c) hd⟩⟩

/-- What is kept is enough. -/
theorem keep_sem {c : Code} {env : Env} {S : St} {k : St → Prop} (h : C.keep c env S k) : ∃ S', k S' ∧ ∀ G0 w0 G w a, G0.Under C.bs → Evo G0 w0 G w → Inv G w S → ER G w env a → ∃ G', Evo G0 w0 G' w ∧ Inv G' w S' ∧ ER G' w env a := by
  have plain : ∀ G0 w0 G w (a : Act), G0.Under C.bs → Evo G0 w0 G w → Inv G w S → ER G w env a → ∃ G', Evo G0 w0 G' w ∧ Inv G' w ⟨S.hs, S.ts, []⟩ ∧ ER G' w env a :=
    fun G0 w0 G w a _ hE hI he => ⟨G, hE, hI.congr (fun _ _ => Iff.rfl) rfl, he⟩
  unfold WCx.keep at h
  split at h
  · split at h
    · rename_i m hm
      split at h
      case h_2 => exact h.elim
      rename_i hbm
      have hbm := Nat.le_of_ble_eq_true hbm
      obtain ⟨h1, h⟩ := cIf_and h
      obtain ⟨h2, h⟩ := cIf_and h
      refine ⟨_, h, fun G0 w0 G w a hb hE hI he => ⟨G.cut m, ?_, ?_, ?_⟩⟩
      · exact {
          k := hE.k, cell := hE.cell
          σ := fun x b hx => by
            rcases Nat.lt_or_ge x m with hlt | hge
            · simp only [Gh.cut, if_pos hlt]; exact hE.σ x b hx
            · rw [hb.1 x (Nat.le_trans hbm hge)] at hx; cases hx
          σn := fun x b hx => by
            rcases hE.σn x b (cut_σ hx).2 with h3 | h3
            · exact .inl h3
            · exact .inr h3
          tk := hE.tk, tkn := hE.tkn, kn := hE.kn, B := hE.B, size := hE.size, os := hE.os, tape := hE.tape, output := hE.output, frame := hE.frame }
      · refine hI.cut (S0 := ⟨S.hs.take m, S.ts, []⟩) (n := m) (fun q x hx => ?_) (fun q x hq hx => ?_) rfl (fun q x hx => ?_)
        · simp only at hx
          have hlt := (List.getElem?_eq_some_iff.1 hx).1
          rw [List.length_take] at hlt
          rw [List.getElem?_take_of_lt (by omega)] at hx
          exact ⟨by omega, hx⟩
        · simp only
          rw [List.getElem?_take_of_lt hq]; exact hx
        · simp only at hx
          have := List.all_eq_true.1 h2 _ (List.mem_of_getElem? hx)
          exact fun o b _ _ hr => hr.cut this
      · exact ⟨he.1, fun i x hx => (he.2 i x hx).cut (noHL_get h1 hx)⟩
    · exact ⟨_, h, plain⟩
  · exact ⟨_, h, plain⟩

def noSelf : Self := { call := fun _ _ _ => none, loop := fun _ _ _ => none }
theorem noSelf_ok (D : Cx) : SelfOk D noSelf := ⟨fun _ _ _ _ _ h => (by cases h), fun _ _ _ _ _ _ _ h => (by cases h)⟩

theorem CSem.of_ev (hC : CxOk C.cx) {c : Code} {env : Env} {S : St} {x : EX} {e : Env} {s : St} (h : evC C.cx noSelf c env S = some (x, e, s)) : CSem C.pc C.bs c env S x e s :=
  ⟨fun hok G0 w0 hb hg rd n ds G w a hE hI he hd Q hQ => evC_sound hC (noSelf_ok _) c _ _ _ _ _ hok h rd n ds G w a hI (hg.mono hE) he hd Q fun e' a' w' ⟨G', q1, q2, q3, q4, q5⟩ => hQ _ _ _ ⟨G', q1, hE.trans q2, q3, q4, q5⟩⟩

theorem wpC_ok (ho : C.Ones) (hC : CxOk C.cx) : ∀ (c : Code) (env : Env) (S : St) (k : Kont), wpC C c env S k → ∃ x e s, CSem C.pc C.bs c env S x e s ∧ k x e s := by
  intro c
  induction c <;> intro env S k h
  case skip => exact ⟨_, _, _, .of_ev hC rfl, h⟩
  case region id ops d =>
    have key : ∃ x e s, evC C.cx noSelf (.region id ops d) env S = some (x, e, s) ∧ k x e s := by
      cases d
      · exact wpOps_ok ho _ _ _ _ h
      · simp only [wpC] at h
        simp only [evC]
        split at h
        · rename_i hf
          rw [if_pos hf]
          obtain ⟨e, s, h1, h2⟩ := wpDraw_ok (sf := noSelf) ho _ _ _ _ _ _ h
          rw [h1]
          exact wpOps_ok ho _ _ _ _ h2
        · rename_i hf
          rw [if_neg (by rw [hf]; simp)]
          obtain ⟨e, s, h1, h2⟩ := wpDraw_ok (sf := noSelf) ho _ _ _ _ _ _ h
          rw [h1]
          exact ⟨_, _, _, rfl, h2⟩
    obtain ⟨x, e, s, h1, h2⟩ := key
    exact ⟨x, e, s, .of_ev hC h1, h2⟩
  case seq a b iha ihb =>
    obtain ⟨x, e, s, h1, h2⟩ := iha _ _ _ h
    cases x with
    | normal =>
      have h2' : ∃ x2 e2 s2, CSem C.pc C.bs b (C.mask b e) s x2 e2 s2 ∧ k x2 e2 s2 := by
        simp only at h2
        split at h2
        · obtain ⟨s', ⟨x2, e2, s2, h3, h4⟩, h5⟩ := keep_sem h2
          refine ⟨x2, e2, s2, ⟨fun hok G0 w0 hb hg rd n ds G w a hE hI he hd Q hQ => ?_⟩, h4⟩
          obtain ⟨G', g1, g2, g3⟩ := h5 G0 w0 G w a hb hE hI he
          exact h3.run hok G0 w0 hb hg rd n ds G' w a g1 g2 g3 hd Q hQ
        · exact ihb _ _ _ h2
      obtain ⟨x2, e2, s2, h3, h4⟩ := h2'
      refine ⟨x2, e2, s2, ⟨fun hok G0 w0 hb hg rd n ds G w a hE hI he hd Q hQ => ?_⟩, h4⟩
      simp only [okC, Bool.and_eq_true] at hok
      refine wpIn_seq ?_
      refine h1.run hok.1 G0 w0 hb hg rd n ds G w a hE hI he hd _ ?_
      rintro e' a1 w1 ⟨G1, q1, q2, q3, q4, q5⟩
      simp only [ExR] at q5
      subst q5
      exact h3.mask.run hok.2 G0 w0 hb hg rd n ds G1 w1 a1 q2 q1 q3 q4 Q hQ
    | _ =>
      refine ⟨_, e, s, ⟨fun hok G0 w0 hb hg rd n ds G w a hE hI he hd Q hQ => ?_⟩, h2⟩
      simp only [okC, Bool.and_eq_true] at hok
      refine wpIn_seq ?_
      refine h1.run hok.1 G0 w0 hb hg rd n ds G w a hE hI he hd _ ?_
      rintro e' a1 w1 hp
      have hp' := hp
      obtain ⟨G1, q1, q2, q3, q4, q5⟩ := hp
      first
        | (simp only [ExR] at q5; subst q5; exact hQ _ _ _ hp')
        | (obtain ⟨u, rfl, hu⟩ := q5; exact hQ _ _ _ hp')
  case cond c a b iha ihb =>
    simp only [wpC] at h
    split at h
    · rename_i t ht
      rcases cIf_elim h with ⟨rfl, h⟩ | ⟨rfl, h⟩
      · obtain ⟨x, e, s, h1, h2⟩ := iha _ _ _ h
        refine ⟨x, e, s, ⟨fun hok G0 w0 hb hg rd n ds G w a hE hI he hd Q hQ => ?_⟩, h2⟩
        simp only [okC, Bool.and_eq_true] at hok
        have hv := he.eval (hg.mono hE) c
        rw [ht] at hv
        refine wpIn_cond hv.bool_inv ?_
        rw [if_pos rfl]
        exact h1.run hok.1 G0 w0 hb hg rd n ds G w a hE hI he hd Q hQ
      · obtain ⟨x, e, s, h1, h2⟩ := ihb _ _ _ h
        refine ⟨x, e, s, ⟨fun hok G0 w0 hb hg rd n ds G w a hE hI he hd Q hQ => ?_⟩, h2⟩
        simp only [okC, Bool.and_eq_true] at hok
        have hv := he.eval (hg.mono hE) c
        rw [ht] at hv
        refine wpIn_cond hv.bool_inv ?_
        rw [if_neg (by simp)]
        exact h1.run hok.2 G0 w0 hb hg rd n ds G w a hE hI he hd Q hQ
    · exact h.elim
  case block id c ih =>
    obtain ⟨x, e, s, h1, h2⟩ := ih _ _ _ h
    cases x with
    | exit i =>
      rcases cIf_elim h2 with ⟨q, h2⟩ | ⟨q, h2⟩
      · refine ⟨.normal, e, s, ⟨fun hok G0 w0 hb hg rd n ds G w a hE hI he hd Q hQ => ?_⟩, h2⟩
        refine wpIn_block ?_
        refine h1.run hok G0 w0 hb hg rd n ds G w a hE hI he hd _ ?_
        rintro e' a1 w1 ⟨G1, q1, q2, q3, q4, q5⟩
        simp only [ExR] at q5
        subst q5
        simp only [Exit.inBlock]
        rw [if_pos (of_decide_eq_true q)]
        exact hQ _ _ _ ⟨G1, q1, q2, q3, q4, rfl⟩
      · refine ⟨.exit i, e, s, ⟨fun hok G0 w0 hb hg rd n ds G w a hE hI he hd Q hQ => ?_⟩, h2⟩
        refine wpIn_block ?_
        refine h1.run hok G0 w0 hb hg rd n ds G w a hE hI he hd _ ?_
        rintro e' a1 w1 ⟨G1, q1, q2, q3, q4, q5⟩
        simp only [ExR] at q5
        subst q5
        simp only [Exit.inBlock]
        rw [if_neg (of_decide_eq_false q)]
        exact hQ _ _ _ ⟨G1, q1, q2, q3, q4, rfl⟩
    | _ =>
      refine ⟨_, e, s, ⟨fun hok G0 w0 hb hg rd n ds G w a hE hI he hd Q hQ => ?_⟩, h2⟩
      refine wpIn_block ?_
      refine h1.run hok G0 w0 hb hg rd n ds G w a hE hI he hd _ ?_
      rintro e' a1 w1 hp
      have hp' := hp
      obtain ⟨G1, q1, q2, q3, q4, q5⟩ := hp
      first
        | (simp only [ExR] at q5; subst q5; exact hQ _ _ _ hp')
        | (obtain ⟨u, rfl, hu⟩ := q5; exact hQ _ _ _ hp')
  case loop c ih =>
    obtain ⟨S', ⟨x, e, s, h1, h2⟩, h5⟩ := keep_sem h
    refine ⟨x, e, s, ⟨fun hok G0 w0 hb hg rd n ds G w a hE hI he hd Q hQ => ?_⟩, h2⟩
    obtain ⟨m, hm⟩ := h1.run hok
    obtain ⟨G', g1, g2, g3⟩ := h5 G0 w0 G w a hb hE hI (he.mask c)
    exact wpIn_mono (wpIn_loop_rounds m (hm G0 w0 hb hg rd n ds G' w a g1 g2 g3 hd)) hQ
  case exit id => exact ⟨_, _, _, .of_ev hC rfl, h⟩
  case ret => exact ⟨_, _, _, .of_ev hC rfl, h⟩
  all_goals exact h.elim

theorem WCut_of (ho : C.Ones) (hC : CxOk C.cx) {c : Code} {env : Env} {S : St} {k : Kont} (h : wpC C c env S k) : WCut C c env S k := wpC_ok ho hC _ _ _ _ h

/-- One round of a loop. -/
theorem WLoop_unroll (ho : C.Ones) (hC : CxOk C.cx) {c : Code} {env : Env} {S : St} {k : Kont} (h : wpC C c env S (kLoop C c k)) : WLoop C c env S k := by
  obtain ⟨x, e, s, h1, h2⟩ := wpC_ok ho hC _ _ _ _ h
  cases x with
  | normal =>
    change C.keep c (C.mask c e) s (fun s => WLoop C c (C.mask c e) s k) at h2
    obtain ⟨s', ⟨x2, e2, s2, h3, h4⟩, h5⟩ := keep_sem h2
    refine ⟨x2, e2, s2, ⟨fun hok => ?_⟩, h4⟩
    obtain ⟨m, hm⟩ := h3.run hok
    refine ⟨m + 1, fun G0 w0 hb hg rd n ds G w a hE hI he hd => ?_⟩
    rw [roundsIn_succ]
    refine h1.run hok G0 w0 hb hg rd n ds G w a hE hI he hd _ ?_
    rintro e' a1 w1 ⟨G1, q1, q2, q3, q4, q5⟩
    simp only [ExR] at q5
    subst q5
    obtain ⟨G', g1, g2, g3⟩ := h5 G0 w0 G1 w1 a1 hb q2 q1 (q3.mask c)
    exact hm G0 w0 hb hg rd n ds G' w1 a1 g1 g2 g3 q4
  | _ =>
    refine ⟨_, e, s, ⟨fun hok => ⟨1, fun G0 w0 hb hg rd n ds G w a hE hI he hd => ?_⟩⟩, h2⟩
    rw [roundsIn_succ]
    refine h1.run hok G0 w0 hb hg rd n ds G w a hE hI he hd _ ?_
    rintro e' a1 w1 hp
    have hp' := hp
    obtain ⟨G1, q1, q2, q3, q4, q5⟩ := hp
    first
      | (simp only [ExR] at q5; subst q5; exact hp')
      | (obtain ⟨u, rfl, hu⟩ := q5; exact hp')

theorem finish_nil {S' : St} {r r' : AV} (h : pub C.cx S'.hs 0 r = some r') : finish C.cx St.nil S' r = (scrub 0 r', St.nil) := by
  have hf : (S'.wl.filter fun h => decide (h < St.nil.hs.length)) = [] := by
    rw [List.filter_eq_nil_iff]
    intro a _
    simp [St.nil]
  unfold finish
  rw [show pub C.cx S'.hs St.nil.hs.length r = some r' from h]
  have ht : finTb St.nil S' = 0 := by
    unfold finTb
    rw [hf]
    simp [wrTok, St.nil]
  simp only [hf, ht]
  simp [wrOk, St.nil, addAll]

theorem call_sem (hC : CxOk C.cx) {g : FuncId} {args : List AV} {fn : Func} {c : Code} (hfn : C.P.funcs[g]? = some fn) (hc : fn.body = some c) {x : EX} {env1 : Env} {S1 : St}
    (hev : CSem C.pc C.bs c (args ++ List.replicate (fn.ntmps - args.length) .bad) St.nil x env1 S1) {r : CR} {S' : St}
    (hr : match x with
      | .normal => ∃ v, resultsA C.cx fn env1 S1 = some v ∧ r = .ret (finish C.cx St.nil S1 v).1 ∧ S' = (finish C.cx St.nil S1 v).2
      | .ret => ∃ v, resultsA C.cx fn env1 S1 = some v ∧ r = .ret (finish C.cx St.nil S1 v).1 ∧ S' = (finish C.cx St.nil S1 v).2
      | .pan v => r = .pan (finish C.cx St.nil S1 v).1 ∧ S' = (finish C.cx St.nil S1 v).2
      | .exit _ => False) : CallOk C.cx g args St.nil r S' := by
  intro G w us hI hg has
  refine (callsIn_wide (n := 0)).1 (callsIn_of_wp hfn hc trivial ?_)
  have hb : G.Under C.bs := ⟨fun h _ => by
    cases hs : G.σ h with
    | none => rfl
    | some b => obtain ⟨hb, hx⟩ := hI.dom _ _ hs; simp [St.nil] at hx, fun k => by
    cases hs : G.tk k with
    | none => rfl
    | some x => obtain ⟨b, c, m, z⟩ := x; have := (hI.tdom _ _ _ _ _ hs).1; simp [St.nil] at this⟩
  have he := args_ER has fn.ntmps
  refine hev.run (hC.codes g fn c hfn hc) G w hb hg none 0 [] G w _ (Evo.refl G w) hI he rfl _ ?_
  rintro e a' w' ⟨G1, q1, q2, q3, q4, q5⟩
  have hW : Wl { St.nil with wl := [] } S1 := ⟨Nat.zero_le _, Nat.zero_le _, fun h hh => by simp [St.nil] at hh, fun h hh => by simp [St.nil] at hh⟩
  have ret : (∃ v, resultsA C.cx fn env1 S1 = some v ∧ r = .ret (finish C.cx St.nil S1 v).1 ∧ S' = (finish C.cx St.nil S1 v).2) → a'.defers = [] ∧ ∃ v, (results fn a'.tmps).run C.P w' = .ok v w' ∧ CallPost G w r S' (.returned v) w' := by
    rintro ⟨v, hv, rfl, rfl⟩
    obtain ⟨u, u1, u2⟩ := resultsA_sound q1 q3 hv
    obtain ⟨G2, p1, p2, p3⟩ := finish_sound (C := C.cx) hI q1 q2 hW u1
    exact ⟨q4, u, u2, G2, p1, p2, u, rfl, p3⟩
  cases x with
  | normal => simp only [ExR] at q5; subst q5; exact ret hr
  | ret => simp only [ExR] at q5; subst q5; exact ret hr
  | exit i => exact hr.elim
  | pan v =>
    obtain ⟨u, rfl, hu⟩ := q5
    obtain ⟨G2, p1, p2, p3⟩ := finish_sound (C := C.cx) hI q1 q2 hW hu
    obtain ⟨rfl, rfl⟩ := hr
    exact ⟨q4, G2, p1, p2, u, rfl, p3⟩

theorem wpF_ok (ho : C.Ones) (hC : CxOk C.cx) {g : FuncId} {args : List AV} {Q : CR → Prop} (h : wpF C g args Q) : ∃ r, CallOk C.cx g args St.nil r St.nil ∧ Q r := by
  unfold wpF at h
  split at h
  · rename_i fn hfn
    split at h
    · rename_i c hc
      obtain ⟨x, e, s, h1, h2⟩ := wpC_ok ho hC _ _ _ _ h
      unfold kRet at h2
      rw [hfn] at h2
      simp only at h2
      have fin : ∀ v r', pub C.pc s.hs 0 v = some r' → finish C.cx St.nil s v = (scrub 0 r', St.nil) := fun v r' q => finish_nil ((pub_cx _ _ _).trans q)
      cases x with
      | normal =>
        obtain ⟨r, q1, h2⟩ := optW_elim h2
        obtain ⟨r', q2, h2⟩ := optW_elim h2
        refine ⟨_, call_sem hC hfn hc h1 ⟨r, (resultsA_cx _ _ _).trans q1, rfl, ?_⟩, ?_⟩
        · rw [fin _ _ q2]
        · rw [fin _ _ q2]; exact h2
      | ret =>
        obtain ⟨r, q1, h2⟩ := optW_elim h2
        obtain ⟨r', q2, h2⟩ := optW_elim h2
        refine ⟨_, call_sem hC hfn hc h1 ⟨r, (resultsA_cx _ _ _).trans q1, rfl, ?_⟩, ?_⟩
        · rw [fin _ _ q2]
        · rw [fin _ _ q2]; exact h2
      | pan v =>
        obtain ⟨r', q2, h2⟩ := optW_elim h2
        refine ⟨_, call_sem hC hfn hc h1 ⟨rfl, ?_⟩, ?_⟩
        · rw [fin _ _ q2]
        · rw [fin _ _ q2]; exact h2
      | exit i => exact h2.elim
    · exact h.elim
  · exact h.elim
end
end Go.Ev
/-! Ev.Wp5 -/
set_option linter.unusedVariables false
set_option linter.unusedSimpArgs false
namespace Go.Ev

abbrev Spc := List AV → Option (Prop × CR)
/-- A call that leaves the state alone. -/
def specW (R : Spc) (args : List AV) (S : St) (k : CR → St → Prop) : Prop := match R args with
  | some (D, r) => D ∧ k r S
  | none => False
theorem specW_one (R : Spc) : One (specW R) := by
  intro args S
  unfold specW
  cases h : R args with
  | none => exact ⟨(.ret .bad, S), False, fun k => by simp⟩
  | some p => exact ⟨(p.2, S), p.1, fun k => Iff.rfl⟩

/-- What is asked of a hook. -/
structure HookOk (C0 : Cx) (g : FuncId) (W : List AV → St → (CR → St → Prop) → Prop) : Prop where
  one : One W
  body : ∃ (fn : Func) (c : Code), C0.P.funcs[g]? = some fn ∧ fn.body = some c
  ok : ∀ args S r S', (W args S fun r' s => r' = r ∧ s = S') → CallOk C0 g args S r S' ∧ Wl S S'

/-- A contract. -/
structure Ct (C0 : Cx) (g : FuncId) (R : Spc) : Prop where
  body : ∃ (fn : Func) (c : Code), C0.P.funcs[g]? = some fn ∧ fn.body = some c
  ok : ∀ args (D : Prop) r, R args = some (D, r) → D → noHL 0 args = true ∧ CallOk C0 g (scrubL 0 args) St.nil r St.nil

theorem Ct.hook {C0 : Cx} (hgt : GtPlain C0) {g : FuncId} {R : Spc} (h : Ct C0 g R) : HookOk C0 g (specW R) where
  one := specW_one R
  body := h.body
  ok := fun args S r S' hw => by
    unfold specW at hw
    split at hw
    · rename_i D r' hR
      obtain ⟨hD, rfl, rfl⟩ := hw
      obtain ⟨h1, h2⟩ := h.ok args D r' hR hD
      exact ⟨h2.frame hgt h1 S, Wl.refl S⟩
    · exact hw.elim

/-- What a context rests on. -/
structure Base where
  P : Program
  gt : Nat → Option (List AV)
  eqt : List TypeId
  nat : FuncId → List AV → Option AV
  hw : FuncId → Option (List AV → St → (CR → St → Prop) → Prop)
def Base.c0 (B : Base) : Cx := { P := B.P, gt := B.gt, eqt := fun t => B.eqt.contains t, nat := B.nat, hk := fun _ => none }

structure BaseOk (B : Base) : Prop where
  eqt : ∀ t, B.eqt.contains t = true → eqtB B.P t = true
  codes : ∀ (g : Nat) (fn : Func) (c : Code), B.P.funcs[g]? = some fn → fn.body = some c → okC c = true
  nat : ∀ (g : FuncId) (args : List AV) (v : AV), B.nat g args = some v → ∀ G w (us : List Value), VRs G w args us → ∃ u, (callFunc g us.toArray).run B.P w = .ok (.value u) w ∧ VR G w v u
  mixed : B.P.follows .mixedOrders = true
  names : ∀ (g : Nat) (fn : Func) (c : Code), B.P.funcs[g]? = some fn → fn.body = some c → (fn.name == "runtime.NumGoroutine") = false
  gtp : GtPlain B.c0
  hw : ∀ g W, B.hw g = some W → HookOk B.c0 g W

def Base.wcx (B : Base) (l : List (FuncId × Spc)) (lm : List (Nat × List Nat) := []) (tp : List Nat := []) (ct : List Nat := []) (sm : List (Nat × Nat) := []) : WCx :=
  { sm := fun n => sm.lookup n, ct := fun n => ct.contains n, lm := fun n => lm.lookup n, tp := fun h => tp.contains h, P := B.P, gt := B.gt, eqt := fun t => B.eqt.contains t, nat := B.nat, hw := fun g => match l.lookup g with | some R => some (specW R) | none => B.hw g }

def Cts (B : Base) (l : List (FuncId × Spc)) : Prop := ∀ p ∈ l, Ct B.c0 p.1 p.2
theorem Cts.nil (B : Base) : Cts B [] := fun p h => by simp at h
theorem Cts.cons {B : Base} {g : FuncId} {R : Spc} {l : List (FuncId × Spc)} (h : Ct B.c0 g R) (hl : Cts B l) : Cts B ((g, R) :: l) := fun p hp => by
  rcases List.mem_cons.1 hp with rfl | hp
  · exact h
  · exact hl p hp

section
variable {B : Base} {l : List (FuncId × Spc)} {lm : List (Nat × List Nat)} {tp ct : List Nat} {sm : List (Nat × Nat)}
theorem lookup_mem {g : FuncId} {R : Spc} : ∀ {l : List (FuncId × Spc)}, l.lookup g = some R → (g, R) ∈ l
  | [], h => by simp [List.lookup] at h
  | (g', R') :: l, h => by
    simp only [List.lookup] at h
    split at h
    · rename_i hg
      cases h
      rw [beq_iff_eq] at hg
      subst hg
      exact List.mem_cons_self
    · exact List.mem_cons_of_mem _ (lookup_mem h)

theorem wcx_hook (hB : BaseOk B) (hl : Cts B l) {g : FuncId} {W : List AV → St → (CR → St → Prop) → Prop} (h : (B.wcx l lm tp ct sm).hw g = some W) : HookOk B.c0 g W := by
  simp only [Base.wcx] at h
  split at h
  · rename_i R hR
    cases h
    exact (hl _ (lookup_mem hR)).hook hB.gtp
  · exact hB.hw g W h
theorem wcx_ones (hB : BaseOk B) (hl : Cts B l) : (B.wcx l lm tp ct sm).Ones := fun g W h => (wcx_hook hB hl h).one
theorem wcx_hk (hB : BaseOk B) (hl : Cts B l) {g : FuncId} {f : List AV → St → Option (CR × St)} (h : (B.wcx l lm tp ct sm).cx.hk g = some f) {args : List AV} {S S' : St} {r : CR} (hr : f args S = some (r, S')) :
    (∃ (fn : Func) (c : Code), B.P.funcs[g]? = some fn ∧ fn.body = some c) ∧ CallOk B.c0 g args S r S' ∧ Wl S S' := by
  simp only [WCx.cx, Option.map_eq_some_iff] at h
  obtain ⟨W, hW, rfl⟩ := h
  have := wcx_hook hB hl hW
  exact ⟨this.body, this.ok args S r S' (hookOf_spec hr)⟩
theorem wcx_ok (hB : BaseOk B) (hl : Cts B l) : CxOk (B.wcx l lm tp ct sm).cx where
  eqt := eqtB_ok fun t h => hB.eqt t h
  hk := fun g f h args S r S' hr => ⟨(wcx_hk hB hl h hr).1, (wcx_hk hB hl h hr).2.1⟩
  codes := hB.codes
  nat := hB.nat
  mixed := hB.mixed
  names := hB.names
/-- FROM THE PROPOSITION TO THE CALL. -/
theorem call_of_wp (hB : BaseOk B) (hl : Cts B l) {g : FuncId} {args : List AV} {r : CR} (h : wpF (B.wcx l lm tp ct sm) g args fun r' => r' = r) : CallOk B.c0 g args St.nil r St.nil := by
  obtain ⟨r', h1, rfl⟩ := wpF_ok (wcx_ones hB hl) (wcx_ok hB hl) h
  exact h1
theorem WLoop_step (hB : BaseOk B) (hl : Cts B l) {c : Code} {env : Env} {S : St} {k : Kont} (h : wpC (B.wcx l lm tp ct sm) c env S (kLoop (B.wcx l lm tp ct sm) c k)) : WLoop (B.wcx l lm tp ct sm) c env S k :=
  WLoop_unroll (wcx_ones hB hl) (wcx_ok hB hl) h

theorem WCut_step (hB : BaseOk B) (hl : Cts B l) {c : Code} {env : Env} {S : St} {k : Kont} (h : wpC (B.wcx l lm tp ct sm) c env S k) : WCut (B.wcx l lm tp ct sm) c env S k :=
  WCut_of (wcx_ones hB hl) (wcx_ok hB hl) h

theorem Ct.of_wp (hB : BaseOk B) (hl : Cts B l) {g : FuncId} {R : Spc} (hb : ∃ (fn : Func) (c : Code), B.P.funcs[g]? = some fn ∧ fn.body = some c)
    (h : ∀ args (D : Prop) r, R args = some (D, r) → D → noHL 0 args = true ∧ wpF (B.wcx l lm tp ct sm) g (scrubL 0 args) fun r' => r' = r) : Ct B.c0 g R :=
  ⟨hb, fun args D r hR hD => ⟨(h args D r hR hD).1, call_of_wp hB hl (h args D r hR hD).2⟩⟩

mutual
def avSize : AV → Nat
  | .agg l => 1 + avSizeL l
  | .tup l => 1 + avSizeL l
  | .vs l _ _ => 1 + avSizeL l
  | .vp l => 1 + avSizeL l
  | .fn _ a b => 1 + avSizeL a + avSizeL b
  | .ifc _ v => 1 + avSize v
  | _ => 1
def avSizeL : List AV → Nat
  | [] => 0
  | a :: l => avSize a + avSizeL l
end
/-- The same spec for smaller arguments. -/
def Spc.below (R : Spc) (n : Nat) : Spc := fun args => match R args with
  | some (D, r) => some (D ∧ avSizeL args < n, r)
  | none => none
end
end Go.Ev
/-! Ev.Share -/
set_option linter.unusedVariables false
set_option linter.unusedSimpArgs false
namespace Go.Ev
mutual
/-- Blocks told by their cells: for calls that only read. -/
def shA (hs : List (Option HB)) : AV → AV
  | .agg l => .agg (shL hs l)
  | .tup l => .tup (shL hs l)
  | .ptr h off => match hs[h]? with
    | some (some (.cells l _)) => .vp (l.drop off)
    | _ => .bad
  | .vs l n t => .vs l n .none
  | .vp l => .vp l
  | .fn f x y => .fn f (shL hs x) (shL hs y)
  | .ifc t v => .ifc t (shA hs v)
  | .row _ _ _ _ => .bad
  | .mp _ => .bad
  | a => a
def shL (hs : List (Option HB)) : List AV → List AV
  | [] => []
  | a :: l => shA hs a :: shL hs l
end
mutual
def okSh (hs : List (Option HB)) : AV → Bool
  | .agg l => okShL hs l
  | .tup l => okShL hs l
  | .ptr h _ => match hs[h]? with
    | some (some (.cells l _)) => noHL 0 l && noTL 0 l
    | _ => true
  | .vs l _ _ => noHL 0 l && noTL 0 l
  | .vp l => noHL 0 l && noTL 0 l
  | .fn _ x y => okShL hs x && okShL hs y
  | .ifc _ v => okSh hs v
  | _ => true
def okShL (hs : List (Option HB)) : List AV → Bool
  | [] => true
  | a :: l => okSh hs a && okShL hs l
end
def scal : CR → Bool
  | .ret (.int _ _) => true
  | .ret (.bool _) => true
  | .ret (.str _) => true
  | _ => false
section
variable {C : Cx} {G : Gh} {w : World}
def Gh.share (G : Gh) (w : World) : Gh := { σ := fun _ => none, tk := fun _ => none, K := fun b o => G.K b o ∨ ∃ h, G.σ h = some b, B := w.heap.size }

theorem shL_get (hs : List (Option HB)) : ∀ (l : List AV) (i : Nat), (shL hs l)[i]? = (l[i]?).map (shA hs)
  | [], i => by simp [shL]
  | a :: l, 0 => by simp [shL]
  | a :: l, i + 1 => by simpa [shL] using shL_get hs l i
theorem shL_len (hs : List (Option HB)) : ∀ (l : List AV), (shL hs l).length = l.length
  | [] => rfl
  | a :: l => by simp [shL, shL_len hs l]
theorem okShL_get {hs : List (Option HB)} : ∀ {l : List AV} {i : Nat} {a : AV}, okShL hs l = true → l[i]? = some a → okSh hs a = true
  | b :: l, 0, a, h, hi => by simp [okShL] at h hi; subst hi; exact h.1
  | b :: l, i + 1, a, h, hi => by simp [okShL] at h hi; exact okShL_get h.2 hi
theorem noTL_get' {b : Nat} : ∀ {l : List AV} {i : Nat} {a : AV}, noTL b l = true → l[i]? = some a → noT b a = true
  | c :: l, 0, a, h, hi => by simp [noTL] at h hi; subst hi; exact h.1
  | c :: l, i + 1, a, h, hi => by simp [noTL] at h hi; exact noTL_get' h.2 hi

theorem Ext.share : Ext (G.bare w) w (G.share w) w := ⟨fun _ _ h => .inl h, fun _ _ _ => rfl, fun _ _ h => (by cases h), fun _ _ _ _ _ h => (by cases h)⟩
theorem VR.plain {a : AV} {v : Value} (h : VR G w a v) (h1 : Ev.noH 0 a = true) (h2 : Ev.noT 0 a = true) : VR (G.share w) w a v := by
  have := (h.bare h1).ext Ext.share
  rwa [noT_scrub a h2] at this

theorem VR.share {S : St} (hI : Inv G w S) {a : AV} {v : Value} (h : VR G w a v) : okSh S.hs a = true → VR (G.share w) w (shA S.hs a) v := by
  induction h with
  | bad v => intro _; exact .bad v
  | int k n => intro _; exact .int k n
  | bool b => intro _; exact .bool b
  | str s => intro _; exact .str s
  | raw r => intro _; exact .raw r
  | agg l cs hs h ih =>
    intro ho
    simp only [shA]
    refine .agg _ _ (by rw [shL_len]; exact hs) fun i x hx => ?_
    rw [shL_get, Option.map_eq_some_iff] at hx
    obtain ⟨y, hy, rfl⟩ := hx
    exact ih i y hy (okShL_get ho hy)
  | tup l cs hs h ih =>
    intro ho
    simp only [shA]
    refine .tup _ _ (by rw [shL_len]; exact hs) fun i x hx => ?_
    rw [shL_get, Option.map_eq_some_iff] at hx
    obtain ⟨y, hy, rfl⟩ := hx
    exact ih i y hy (okShL_get ho hy)
  | vs l n t A c f hc h hh ht ih =>
    intro ho
    simp only [okSh, Bool.and_eq_true] at ho
    simp only [shA]
    exact VR.plain (VR.vs l n .none A c f hc h hh trivial) (by simpa [Ev.noH] using ho.1) (by simpa [Ev.noT] using ho.2)
  | vp l ad f h hh ih =>
    intro ho
    simp only [okSh, Bool.and_eq_true] at ho
    simp only [shA]
    exact VR.plain (VR.vp l ad f h hh) (by simpa [Ev.noH] using ho.1) (by simpa [Ev.noT] using ho.2)
  | ptr h off b hb =>
    intro ho
    simp only [shA]
    split
    · rename_i l t hl
      simp only [okSh, hl, Bool.and_eq_true] at ho
      obtain ⟨b', o, h1, h2, h3⟩ := hI.blk h _ hl
      rw [hb] at h1
      cases h1
      cases h3 with
      | cells l t cs hs hc =>
        refine .vp _ _ (fun i => cs.getD (off + i) Go.undef) (fun i x hx => ?_) ⟨rfl, fun i hi => ⟨.inr ⟨h, hb⟩, ?_⟩⟩
        · rw [List.getElem?_drop] at hx
          exact (hc _ x hx).plain (noHL_get ho.1 hx) (noTL_get' ho.2 hx)
        · rw [List.length_drop] at hi
          have : off + i < cs.size := by omega
          simp only [World.cell?, h2]
          simp [this]
    · exact .bad _
  | row h off n c b hb hc => intro _; exact .bad _
  | mp h b hb => intro _; exact .bad _
  | fn f a b us bs ha hb h1 h2 ih1 ih2 =>
    intro ho
    simp only [okSh, Bool.and_eq_true] at ho
    simp only [shA]
    refine .fn f _ _ us bs (by rw [shL_len]; exact ha) (by rw [shL_len]; exact hb) (fun i x hx => ?_) (fun i x hx => ?_)
    · rw [shL_get, Option.map_eq_some_iff] at hx
      obtain ⟨y, hy, rfl⟩ := hx
      exact ih1 i y hy (okShL_get ho.1 hy)
    · rw [shL_get, Option.map_eq_some_iff] at hx
      obtain ⟨y, hy, rfl⟩ := hx
      exact ih2 i y hy (okShL_get ho.2 hy)
  | ifc t a v h ih => intro ho; exact .ifc t _ v (ih ho)

theorem VRs.share {S : St} (hI : Inv G w S) {l : List AV} {us : List Value} (h : VRs G w l us) (ho : okShL S.hs l = true) : VRs (G.share w) w (shL S.hs l) us := by
  refine ⟨by rw [shL_len]; exact h.1, fun i x hx => ?_⟩
  rw [shL_get, Option.map_eq_some_iff] at hx
  obtain ⟨y, hy, rfl⟩ := hx
  obtain ⟨v, h1, h2⟩ := h.2 i y hy
  exact ⟨v, h1, h2.share hI (okShL_get ho hy)⟩

theorem Inv.share {S : St} (hI : Inv G w S) : Inv (G.share w) w St.nil where
  blk := fun h hb hh => by simp [St.nil] at hh
  dom := fun h b hh => by simp [Gh.share] at hh
  inj := fun h h' b hh => by simp [Gh.share] at hh
  fr := fun h b o hh => by simp [Gh.share] at hh
  base := fun h b hh => by simp [Gh.share] at hh
  tok := fun k m z hh => by simp [St.nil] at hh
  tdom := fun k b c m z hh => by simp [Gh.share] at hh
  tinj := fun k k' b c m z c' m' z' hh => by simp [Gh.share] at hh
  tσ := fun k b c m z h hh => by simp [Gh.share] at hh
  kin := fun b o hk => by
    rcases hk with hk | ⟨h, hk⟩
    · exact hI.kin b o hk
    · exact hI.blk_lt hk
  bin := Nat.le_refl _

/-- A CALL THAT ONLY READS THE BLOCKS LEAVES THE STATE ALONE. -/
theorem CallOk.share (hgt : GtPlain C) {g : FuncId} {args : List AV} {r : CR} {S : St} (h : CallOk C g (shL S.hs args) St.nil r St.nil) (hs : scal r = true) (ho : okShL S.hs args = true) : CallOk C g args S r S := by
  intro G w us hI hg has
  have hg0 : GtR C (G.share w) w := fun x l hl => (hg x l hl).plain (by simp only [Ev.noH]; exact (hgt x l hl).1) (by simp only [Ev.noT]; exact (hgt x l hl).2)
  obtain hc := h (G.share w) w us hI.share hg0 (has.share hI ho)
  refine hc.mono fun e w' hp => ?_
  obtain ⟨G0', q1, q2, q3⟩ := hp
  have hkn : ∀ b o, G0'.K b o → G.K b o ∨ (∃ h, G.σ h = some b) ∨ w.heap.size ≤ b := fun b o hk => by
    rcases q2.kn b o hk with h1 | h1 | ⟨k, c, m, z, h1⟩
    · rcases h1 with h1 | h1
      · exact .inl h1
      · exact .inr (.inl h1)
    · exact .inr (.inr h1)
    · simp [Gh.share] at h1
  have hold : ∀ b, b < w.heap.size → w'.heap[b]? = w.heap[b]? := fun b hb => q2.frame b hb (fun x hx => by simp [Gh.share] at hx) (fun k c m z hx => by simp [Gh.share] at hx)
  have hsize := q2.size
  have ext2 : Ext G w G w' := ⟨fun b o hk => hk, fun b o hk => q2.cell b o (.inl hk), fun _ _ h => h, fun k b c m z hk => ⟨b, c, m, hk, .inl ⟨rfl, rfl, rfl⟩⟩⟩
  refine ⟨G, ?_, ?_, ?_⟩
  · exact {
      blk := fun k hb hk => by
        obtain ⟨b, o, h1, h2, h3⟩ := hI.blk k hb hk
        exact ⟨b, o, h1, (hold b (hI.blk_lt h1)).trans h2, h3.ext ext2⟩
      dom := hI.dom
      inj := hI.inj
      fr := hI.fr
      base := hI.base
      tok := hI.tok
      tdom := fun k b c m z hk => by
        obtain ⟨h1, h2, h3, h4, h5, ⟨cs, e, ⟨fz, h6, h7⟩, h8, h9⟩, h10⟩ := hI.tdom k b c m z hk
        exact ⟨h1, h2, h3, h4, h5, ⟨cs, e, ⟨fz, (hold b (hI.tk_lt hk)).trans h6, h7⟩, h8, h9⟩, h10⟩
      tinj := hI.tinj
      tσ := hI.tσ
      kin := fun b o hk => Nat.lt_of_lt_of_le (hI.kin b o hk) hsize
      bin := Nat.le_trans hI.bin hsize }
  · exact {
      k := fun _ _ h => h
      cell := fun b o hk => q2.cell b o (.inl hk)
      σ := fun _ _ h => h
      σn := fun _ _ h => .inl h
      tk := fun k b c m z hk => ⟨b, c, m, hk, .inl ⟨rfl, rfl, rfl⟩⟩
      tkn := fun k b c m z hk => .inl ⟨c, m, z, hk⟩
      kn := fun b o hk => .inl hk
      B := rfl
      size := hsize
      os := q2.os
      tape := q2.tape
      output := q2.output
      frame := fun b hb _ _ => hold b hb }
  · cases r with
    | pan a => cases hs
    | ret a =>
      obtain ⟨v, h1, h2⟩ := q3
      refine ⟨v, h1, ?_⟩
      cases h2 <;> first | exact .int _ _ | exact .bool _ | exact .str _ | cases hs
end

/-- A call that only reads. -/
def specS (R : Spc) (args : List AV) (S : St) (k : CR → St → Prop) : Prop := match R (shL S.hs args) with
  | some (D, r) => D ∧ (scal r = true ∧ okShL S.hs args = true) ∧ k r S
  | none => False
theorem specS_one (R : Spc) : One (specS R) := by
  intro args S
  unfold specS
  cases h : R (shL S.hs args) with
  | none => exact ⟨(.ret .bad, S), False, fun k => by simp⟩
  | some p => exact ⟨(p.2, S), p.1 ∧ (scal p.2 = true ∧ okShL S.hs args = true), fun k => by simp [and_assoc]⟩
theorem Ct.hookS {C0 : Cx} (hgt : GtPlain C0) {g : FuncId} {R : Spc} (h : Ct C0 g R) (hn : ∀ args (D : Prop) r, R args = some (D, r) → D → scrubL 0 args = args) : HookOk C0 g (specS R) where
  one := specS_one R
  body := h.body
  ok := fun args S r S' hw => by
    unfold specS at hw
    split at hw
    · rename_i D r' hR
      obtain ⟨hD, ⟨hs, ho⟩, rfl, rfl⟩ := hw
      obtain ⟨h1, h2⟩ := h.ok _ D r' hR hD
      rw [hn _ _ _ hR hD] at h2
      exact ⟨h2.share hgt hs ho, Wl.refl S⟩
    · exact hw.elim
end Go.Ev
/-! Ev.Wp6 -/
set_option linter.unusedVariables false
set_option linter.unusedSimpArgs false
namespace Go.Ev
open Go.RowKit
theorem finS_sound {C : Cx} {G0 G1 : Gh} {w0 w1 : World} {hs0 : List (Option HB)} {S1 : St} {nb : Nat} (hn : hs0.length = nb) (hI0 : Inv G0 w0 ⟨hs0, [], []⟩) (hI1 : Inv G1 w1 S1) (hE : Evo G0 w0 G1 w1)
    (hb : (S1.hs.take nb).all (okBlk nb) = true) {r r' : AV} {v : Value} (hr' : pub C S1.hs nb r = some r') (hv : VR G1 w1 r v) :
    ∃ G2, Inv G2 w1 ⟨(S1.hs.take nb).map (Option.map (scrubHB 0)), [], []⟩ ∧ Evo G0 w0 G2 w1 ∧ VR G2 w1 (scrub 0 r') v := by
  have hσ0 : ∀ h b, G0.σ h = some b → h < nb := fun h b hb => by
    have := hI0.σ_lt hb
    simpa [hn] using this
  have htk0 : ∀ k x, G0.tk k ≠ some x := by
    intro k x hx
    obtain ⟨b, c, m, z⟩ := x
    obtain ⟨h1, _⟩ := hI0.tdom _ _ _ _ _ hx
    simp at h1
  have hget : ∀ h y, ((S1.hs.take nb).map (Option.map (scrubHB 0)))[h]? = some (some y) → h < nb ∧ ∃ x, S1.hs[h]? = some (some x) ∧ y = scrubHB 0 x := by
    intro h y hy
    rw [List.getElem?_map, Option.map_eq_some_iff] at hy
    obtain ⟨x, hx, h2⟩ := hy
    have hl : h < nb := by
      have := (List.getElem?_eq_some_iff.1 hx).1
      simp at this; omega
    rw [List.getElem?_take_of_lt hl] at hx
    rw [Option.map_eq_some_iff] at h2
    obtain ⟨z, rfl, rfl⟩ := h2
    exact ⟨hl, z, hx, rfl⟩
  have hok : ∀ h x, h < nb → S1.hs[h]? = some (some x) → noHB nb x = true := by
    intro h x hl hx
    have h1 : (S1.hs.take nb)[h]? = some (some x) := by rw [List.getElem?_take_of_lt hl]; exact hx
    exact List.all_eq_true.1 hb _ (List.mem_of_getElem? h1)
  have hσ2 : ∀ h b, (((G1.pubK nb).cut nb).cutT 0).σ h = some b → h < nb ∧ G1.σ h = some b := by
    intro h b hx
    simp only [Gh.cutT, Gh.cut, Gh.pubK] at hx
    split at hx
    · rename_i h1; exact ⟨h1, hx⟩
    · cases hx
  have htk2 : ∀ k x, (((G1.pubK nb).cut nb).cutT 0).tk k ≠ some x := by
    intro k x hx
    simp [Gh.cutT, Gh.cut, Gh.pubK] at hx
  refine ⟨((G1.pubK nb).cut nb).cutT 0, ?_, ?_, VR.cutT (Nat.le_refl _) _ (VR.scrub' _ (pub_sound hI1 r hr' hv))⟩
  · exact {
      blk := fun h y hy => by
        obtain ⟨hl, x, hx, rfl⟩ := hget h y hy
        obtain ⟨b, o, g1, g2, g3⟩ := hI1.blk h x hx
        exact ⟨b, o, by simp [Gh.cutT, Gh.cut, Gh.pubK, hl, g1], g2, ((g3.ext (pubK_ext G1 w1 nb)).cut (hok h x hl hx)).cutS⟩
      dom := fun h b hb => by
        obtain ⟨hl, h1⟩ := hσ2 h b hb
        obtain ⟨x, hx⟩ := hI1.dom _ _ h1
        exact ⟨scrubHB 0 x, by simp only []; rw [List.getElem?_map, List.getElem?_take_of_lt hl, hx]; rfl⟩
      inj := fun h h' b h1 h2 => hI1.inj _ _ _ (hσ2 _ _ h1).2 (hσ2 _ _ h2).2
      fr := fun h b o h1 => by
        obtain ⟨hl, h1⟩ := hσ2 _ _ h1
        rintro (hK | ⟨h', h2, h3⟩)
        · exact hI1.fr _ _ _ h1 hK
        · have := hI1.inj _ _ _ h1 h3; omega
      base := fun h b h1 => hI1.base _ _ (hσ2 _ _ h1).2
      tok := fun k m z hk => by simp at hk
      tdom := fun k b c m z hk => absurd hk (htk2 _ _)
      tinj := fun k k' b c m z c' m' z' h1 h2 => absurd h1 (htk2 _ _)
      tσ := fun k b c m z h h1 h2 => absurd h1 (htk2 _ _)
      kin := fun b o hK => by
        rcases hK with hK | ⟨h', h2, h3⟩
        · exact hI1.kin _ _ hK
        · exact hI1.blk_lt h3
      bin := hI1.bin }
  · exact {
      k := fun b o hK => .inl (hE.k _ _ hK)
      cell := hE.cell
      σ := fun h b hb => by
        have := hE.σ _ _ hb
        simp [Gh.cutT, Gh.cut, Gh.pubK, hσ0 _ _ hb, this]
      σn := fun h b hb => hE.σn _ _ (hσ2 _ _ hb).2
      tk := fun k b c m z hk => absurd hk (htk0 _ _)
      tkn := fun k b c m z hk => absurd hk (htk2 _ _)
      kn := fun b o hK => by
        rcases hK with hK | ⟨h', h2, h3⟩
        · exact hE.kn _ _ hK
        · rcases hE.σn _ _ h3 with h4 | h4
          · have := hσ0 _ _ h4; omega
          · exact .inr (.inl h4)
      B := hE.B
      size := hE.size
      os := hE.os
      tape := hE.tape
      output := hE.output
      frame := hE.frame }

section
variable {C : WCx}
end
end Go.Ev
/-! Ev.Wp7 -/
set_option linter.unusedVariables false
set_option linter.unusedSimpArgs false
namespace Go.Ev
def okBlkS (n : Nat) : Option HB → Bool
  | some b => noHB n b
  | none => false
section
variable {C : Cx} {G : Gh} {w : World}
def Gh.pre (G : Gh) (nb : Nat) : Gh := (G.cut nb).cutT 0
def preSt (S : St) (nb : Nat) : St := ⟨(S.hs.take nb).map (Option.map (scrubHB 0)), [], []⟩

theorem pre_σ {nb h b : Nat} (hx : (G.pre nb).σ h = some b) : h < nb ∧ G.σ h = some b := by
  simp only [Gh.pre, Gh.cutT, Gh.cut] at hx
  split at hx
  · rename_i h1; exact ⟨h1, hx⟩
  · cases hx
theorem pre_σ' {nb h b : Nat} (hl : h < nb) (hx : G.σ h = some b) : (G.pre nb).σ h = some b := by
  simp [Gh.pre, Gh.cutT, Gh.cut, hl, hx]
theorem pre_tk {nb k : Nat} {x : Nat × Nat × Nat × (Nat × Nat)} : (G.pre nb).tk k ≠ some x := by
  intro hx
  simp [Gh.pre, Gh.cutT] at hx

theorem VR.pre {nb : Nat} {a : AV} {v : Value} (h : VR G w a v) (hn : Ev.noH nb a = true) : VR (G.pre nb) w (scrub 0 a) v :=
  VR.cutT (Nat.le_refl _) a (VR.scrub' (tb := 0) a (h.cut hn))
theorem Ext.pre (nb : Nat) : Ext (G.bare w) w (G.pre nb) w := ⟨fun _ _ h => h, fun _ _ _ => rfl, fun _ _ h => (by cases h), fun _ _ _ _ _ h => (by cases h)⟩

theorem Inv.pre {S : St} {nb : Nat} (hI : Inv G w S) (hok : (S.hs.take nb).all (okBlkS nb) = true) : Inv (G.pre nb) w (preSt S nb) where
  blk := fun h y hy => by
    simp only [preSt] at hy
    rw [List.getElem?_map, Option.map_eq_some_iff] at hy
    obtain ⟨x, hx, h2⟩ := hy
    have hl : h < nb := by
      have := (List.getElem?_eq_some_iff.1 hx).1
      simp at this; omega
    have hm := List.all_eq_true.1 hok _ (List.mem_of_getElem? hx)
    rw [List.getElem?_take_of_lt hl] at hx
    rw [Option.map_eq_some_iff] at h2
    obtain ⟨z, rfl, rfl⟩ := h2
    obtain ⟨b, o, g1, g2, g3⟩ := hI.blk h z hx
    exact ⟨b, o, pre_σ' hl g1, g2, (g3.cut hm).cutS⟩
  dom := fun h b hb => by
    obtain ⟨hl, h1⟩ := pre_σ hb
    obtain ⟨x, hx⟩ := hI.dom _ _ h1
    exact ⟨scrubHB 0 x, by simp only [preSt]; rw [List.getElem?_map, List.getElem?_take_of_lt hl, hx]; rfl⟩
  inj := fun h h' b h1 h2 => hI.inj _ _ _ (pre_σ h1).2 (pre_σ h2).2
  fr := fun h b o h1 hK => hI.fr _ _ _ (pre_σ h1).2 hK
  base := fun h b h1 => hI.base _ _ (pre_σ h1).2
  tok := fun k m z hk => by simp [preSt] at hk
  tdom := fun k b c m z hk => absurd hk pre_tk
  tinj := fun k k' b c m z c' m' z' h1 h2 => absurd h1 pre_tk
  tσ := fun k b c m z h h1 h2 => absurd h1 pre_tk
  kin := hI.kin
  bin := hI.bin

theorem VRs.pre {nb : Nat} {l : List AV} {us : List Value} (h : VRs G w l us) (hn : Ev.noHL nb l = true) : VRs (G.pre nb) w (scrubL 0 l) us := by
  have hg : ∀ (l : List AV) (i : Nat), (scrubL 0 l)[i]? = (l[i]?).map (scrub 0) := by
    intro l
    induction l with
    | nil => intro i; simp [scrubL]
    | cons a l ih => intro i; cases i with
      | zero => simp [scrubL]
      | succ i => simpa [scrubL] using ih i
  have hlen : (scrubL 0 l).length = l.length := by
    clear h hn hg
    induction l with
    | nil => rfl
    | cons a l ih => simp [scrubL, ih]
  refine ⟨by rw [hlen]; exact h.1, fun i x hx => ?_⟩
  rw [hg, Option.map_eq_some_iff] at hx
  obtain ⟨y, hy, rfl⟩ := hx
  obtain ⟨v, h1, h2⟩ := h.2 i y hy
  exact ⟨v, h1, h2.pre (noHL_get hn hy)⟩

/-- A CALL THAT SEES SOME BLOCKS LEAVES THE OTHERS ALONE. -/
theorem CallOk.pre (hgt : GtPlain C) {g : FuncId} {args : List AV} {r : CR} {S : St} {nb : Nat} {hs' : List (Option HB)} (h : CallOk C g (scrubL 0 args) (preSt S nb) r ⟨hs', [], []⟩)
    (ha : Ev.noHL nb args = true) (hok : (S.hs.take nb).all (okBlkS nb) = true) (hlen : hs'.length = nb) (hnb : nb ≤ S.hs.length) (wl : List Nat) : CallOk C g args S r ⟨hs' ++ S.hs.drop nb, S.ts, wl⟩ := by
  intro G w us hI hg has
  have hg0 : GtR C (G.pre nb) w := fun x l hl => by
    have h1 := ((hg x l hl).bare (by simp only [Ev.noH]; exact (hgt x l hl).1)).ext (Ext.pre nb)
    have h2 : scrub 0 (.vp l) = .vp l := by
      simp only [scrub]
      congr 1
      exact noTL_scrub l (hgt x l hl).2
    rwa [h2] at h1
  obtain hc := h (G.pre nb) w us (hI.pre hok) hg0 (has.pre ha)
  refine hc.mono fun e w' hp => ?_
  obtain ⟨G0', q1, q2, q3⟩ := hp
  have hpres : ∀ k, k < nb → ∃ x, S.hs[k]? = some (some x) := fun k hk => by
    have h1 : k < S.hs.length := by omega
    have h2 : (S.hs.take nb)[k]? = some S.hs[k] := by rw [List.getElem?_take_of_lt hk]; exact List.getElem?_eq_getElem h1
    have h3 := List.all_eq_true.1 hok _ (List.mem_of_getElem? h2)
    rw [List.getElem?_eq_getElem h1]
    cases hx : S.hs[k] with
    | none => rw [hx] at h3; cases h3
    | some x => exact ⟨x, rfl⟩
  have hσ : ∀ k b, G0'.σ k = some b → k < nb ∧ G.σ k = some b := fun k b hk => by
    have hl : k < nb := by
      obtain ⟨hb, hx⟩ := q1.dom _ _ hk
      have := (List.getElem?_eq_some_iff.1 hx).1
      simp at this; omega
    obtain ⟨x, hx⟩ := hpres k hl
    obtain ⟨b0, o, h1, h2, h3⟩ := hI.blk k x hx
    have := q2.σ _ _ (pre_σ' hl h1)
    rw [hk] at this
    cases this
    exact ⟨hl, h1⟩
  have htk : ∀ k x, G0'.tk k ≠ some x := fun k x hk => by obtain ⟨b, c, m, z⟩ := x; have := (q1.tdom _ _ _ _ _ hk).1; simp at this
  have hkn : ∀ b o, G0'.K b o → G.K b o ∨ w.heap.size ≤ b := fun b o hk => by
    rcases q2.kn b o hk with h1 | h1 | ⟨k, c, m, z, h1⟩
    · exact .inl h1
    · exact .inr h1
    · exact absurd h1 pre_tk
  have hold : ∀ b, b < w.heap.size → (∀ k, k < nb → G.σ k ≠ some b) → w'.heap[b]? = w.heap[b]? := fun b hb hx => q2.frame b hb (fun k hk => hx k (pre_σ hk).1 (pre_σ hk).2) (fun k c m z hk => pre_tk hk)
  have ext1 : Ext G0' w' { G with K := G0'.K } w' := ⟨fun _ _ h => h, fun _ _ _ => rfl, fun k b hk => (hσ k b hk).2, fun k b c m z hk => absurd hk (htk k _)⟩
  have ext2 : Ext G w { G with K := G0'.K } w' := ⟨fun b o hk => q2.k b o hk, fun b o hk => q2.cell b o hk, fun _ _ h => h, fun k b c m z hk => ⟨b, c, m, hk, .inl ⟨rfl, rfl, rfl⟩⟩⟩
  have hgetlt : ∀ k, k < nb → (hs' ++ S.hs.drop nb)[k]? = hs'[k]? := fun k hk => List.getElem?_append_left (by omega)
  have hgetge : ∀ k, nb ≤ k → (hs' ++ S.hs.drop nb)[k]? = S.hs[k]? := fun k hk => by
    rw [List.getElem?_append_right (by omega), List.getElem?_drop]
    congr 1
    omega
  have hin : ∀ k b, nb ≤ k → G.σ k = some b → ∀ j, j < nb → G.σ j ≠ some b := fun k b hk h1 j hj h2 => by
    have := hI.inj _ _ _ h1 h2; omega
  refine ⟨{ G with K := G0'.K }, ?_, ?_, ?_⟩
  · exact {
      blk := fun k hb hk => by
        rcases Nat.lt_or_ge k nb with hl | hge
        · simp only at hk
          rw [hgetlt k hl] at hk
          obtain ⟨b, o, h1, h2, h3⟩ := q1.blk k hb hk
          exact ⟨b, o, (hσ k b h1).2, h2, h3.ext ext1⟩
        · simp only at hk
          rw [hgetge k hge] at hk
          obtain ⟨b, o, h1, h2, h3⟩ := hI.blk k hb hk
          exact ⟨b, o, h1, (hold b (hI.blk_lt h1) (hin k b hge h1)).trans h2, h3.ext ext2⟩
      dom := fun k b hk => by
        rcases Nat.lt_or_ge k nb with hl | hge
        · simp only
          rw [hgetlt k hl]
          exact q1.dom k b (q2.σ _ _ (pre_σ' hl hk))
        · simp only
          rw [hgetge k hge]
          exact hI.dom k b hk
      inj := hI.inj
      fr := fun k b o hk hK => by
        rcases Nat.lt_or_ge k nb with hl | hge
        · exact q1.fr k b o (q2.σ _ _ (pre_σ' hl hk)) hK
        · rcases hkn b o hK with h1 | h1
          · exact hI.fr k b o hk h1
          · have := hI.blk_lt hk; omega
      base := hI.base
      tok := hI.tok
      tdom := fun k b c m z hk => by
        obtain ⟨h1, h2, h3, h4, h5, ⟨cs, e, ⟨fz, h6, h7⟩, h8, h9⟩, h10⟩ := hI.tdom k b c m z hk
        refine ⟨h1, h2, h3, h4, h5, ⟨cs, e, ⟨fz, (hold b (hI.tk_lt hk) fun j _ hj => hI.tσ _ _ _ _ _ _ hk hj).trans h6, h7⟩, h8, h9⟩, fun o hK => ?_⟩
        rcases hkn b o hK with h11 | h11
        · exact h10 o h11
        · have := hI.tk_lt hk; omega
      tinj := hI.tinj
      tσ := hI.tσ
      kin := q1.kin
      bin := Nat.le_trans hI.bin q2.size }
  · exact {
      k := q2.k
      cell := q2.cell
      σ := fun _ _ h => h
      σn := fun _ _ h => .inl h
      tk := fun k b c m z hk => ⟨b, c, m, hk, .inl ⟨rfl, rfl, rfl⟩⟩
      tkn := fun k b c m z hk => .inl ⟨c, m, z, hk⟩
      kn := fun b o hk => by
        rcases hkn b o hk with h1 | h1
        · exact .inl h1
        · exact .inr (.inl h1)
      B := rfl
      size := q2.size
      os := q2.os
      tape := q2.tape
      output := q2.output
      frame := fun b hb hx _ => hold b hb fun k _ => hx k }
  · cases r with
    | ret a => obtain ⟨v, h1, h2⟩ := q3; exact ⟨v, h1, h2.ext ext1⟩
    | pan a => obtain ⟨v, h1, h2⟩ := q3; exact ⟨v, h1, h2.ext ext1⟩
end

abbrev SpcP := List AV → List (Option HB) → Option (Prop × CR × List (Option HB))
/-- A call that sees the first blocks. -/
def specP (nb : Nat) (R : SpcP) (args : List AV) (S : St) (k : CR → St → Prop) : Prop := match R args (S.hs.take nb) with
  | some (D, r, hs') => D ∧ (noHL nb args = true ∧ (S.hs.take nb).all (okBlkS nb) = true ∧ hs'.length = nb ∧ nb ≤ S.hs.length) ∧ k r ⟨hs' ++ S.hs.drop nb, S.ts, addAll (List.range nb) S.wl⟩
  | none => False
theorem specP_one (nb : Nat) (R : SpcP) : One (specP nb R) := by
  intro args S
  unfold specP
  cases h : R args (S.hs.take nb) with
  | none => exact ⟨(.ret .bad, S), False, fun k => by simp⟩
  | some p => exact ⟨(p.2.1, ⟨p.2.2 ++ S.hs.drop nb, S.ts, addAll (List.range nb) S.wl⟩), p.1 ∧ (noHL nb args = true ∧ (S.hs.take nb).all (okBlkS nb) = true ∧ p.2.2.length = nb ∧ nb ≤ S.hs.length), fun k => by simp [and_assoc]⟩
structure CtP (C0 : Cx) (g : FuncId) (nb : Nat) (R : SpcP) : Prop where
  body : ∃ (fn : Func) (c : Code), C0.P.funcs[g]? = some fn ∧ fn.body = some c
  ok : ∀ args hs (D : Prop) r hs', R args hs = some (D, r, hs') → D → hs.length = nb → CallOk C0 g (scrubL 0 args) ⟨hs.map (Option.map (scrubHB 0)), [], []⟩ r ⟨hs', [], []⟩
theorem addAll_mem : ∀ (ws l : List Nat) (x : Nat), x ∈ addAll ws l ↔ x ∈ ws ∨ x ∈ l
  | [], l, x => by simp [addAll]
  | h :: ws, l, x => by
    simp only [addAll]
    rw [addAll_mem ws]
    split
    · rename_i hc
      have hc : h ∈ l := by simpa using hc
      constructor
      · rintro (h1 | h1)
        · exact .inl (List.mem_cons_of_mem _ h1)
        · exact .inr h1
      · rintro (h1 | h1)
        · rcases List.mem_cons.1 h1 with rfl | h1
          · exact .inr hc
          · exact .inl h1
        · exact .inr h1
    · simp only [List.mem_cons]
      constructor
      · rintro (h1 | h1 | h1)
        · exact .inl (.inr h1)
        · exact .inl (.inl h1)
        · exact .inr h1
      · rintro ((h1 | h1) | h1)
        · exact .inr (.inl h1)
        · exact .inl h1
        · exact .inr (.inr h1)
theorem CtP.hook {C0 : Cx} (hgt : GtPlain C0) {g : FuncId} {nb : Nat} {R : SpcP} (h : CtP C0 g nb R) : HookOk C0 g (specP nb R) where
  one := specP_one nb R
  body := h.body
  ok := fun args S r S' hw => by
    unfold specP at hw
    split at hw
    · rename_i D r' hs' hR
      obtain ⟨hD, ⟨h1, h2, h3, h4⟩, rfl, rfl⟩ := hw
      have h5 := h.ok args _ D r' hs' hR hD (by rw [List.length_take]; omega)
      refine ⟨CallOk.pre hgt (S := S) (nb := nb) h5 h1 h2 h3 h4 _, ?_, Nat.le_refl _, fun x hx => (addAll_mem _ _ _).2 (.inr hx), fun x hx hn => ?_⟩
      · simp only [List.length_append, List.length_drop]; omega
      · have hge : nb ≤ x := by
          rcases Nat.lt_or_ge x nb with hl | hge
          · exact absurd ((addAll_mem _ _ _).2 (.inl (List.mem_range.2 hl))) hn
          · exact hge
        simp only
        rw [List.getElem?_append_right (by omega), List.getElem?_drop]
        congr 1
        omega
    · exact hw.elim
end Go.Ev
/-! Ev.Wp8 -/
set_option linter.unusedVariables false
namespace Go.Ev
/-- The same spec for smaller arguments. -/
def SpcP.below (R : SpcP) (n : Nat) : SpcP := fun args hs => match R args hs with
  | some (D, r) => some (D ∧ avSizeL args < n, r)
  | none => none
/-- The base with one hook more. -/
def Base.hk (B : Base) (g : FuncId) (W : List AV → St → (CR → St → Prop) → Prop) : Base := { B with hw := fun g' => match Nat.beq g' g with | true => some W | false => B.hw g' }
theorem BaseOk.hk {B : Base} (hB : BaseOk B) {g : FuncId} {W : List AV → St → (CR → St → Prop) → Prop} (h : HookOk B.c0 g W) : BaseOk (B.hk g W) where
  eqt := hB.eqt
  codes := hB.codes
  nat := hB.nat
  mixed := hB.mixed
  names := hB.names
  gtp := hB.gtp
  hw := fun g' W' h' => by
    simp only [Base.hk] at h'
    split at h'
    · rename_i hg
      have := Nat.eq_of_beq_eq_true hg
      subst this
      cases h'
      exact h
    · exact hB.hw g' W' h'
section
variable {B : Base} {nb : Nat} {l : List (FuncId × Spc)} {lm : List (Nat × List Nat)} {tp ct : List Nat} {sm : List (Nat × Nat)}
end
end Go.Ev
/-! Ev.Wp9 -/
set_option linter.unusedVariables false
namespace Go.Ev
end Go.Ev
/-! Ev.Memo -/
set_option linter.unusedVariables false
set_option linter.unusedSimpArgs false
namespace Go.Ev

abbrev Memo := List (FuncId × List AV × CR)
def memoHk (M : Memo) (g : FuncId) (args : List AV) (S : St) : Option (CR × St) :=
  match M.find? fun e => Nat.beq e.1 g && (noHL 0 args && AV.eqbL e.2.1 (scrubL 0 args)) with
  | some e => some (e.2.2, S)
  | none => none
/-- A context whose calls of some functions are known. -/
def Cx.memo (C : Cx) (M : Memo) : Cx := { C with hk := fun g => if M.any (fun e => Nat.beq e.1 g) = true then some (memoHk M g) else C.hk g }

def MemoOk (C0 : Cx) (M : Memo) : Prop := ∀ e ∈ M, (∃ (fn : Func) (c : Code), C0.P.funcs[e.1]? = some fn ∧ fn.body = some c) ∧ CallOk C0 e.1 e.2.1 St.nil e.2.2 St.nil
theorem MemoOk.nil (C0 : Cx) : MemoOk C0 [] := fun e h => by simp at h
theorem MemoOk.cons {C0 : Cx} {g : FuncId} {args : List AV} {r : CR} {M : Memo} (hb : ∃ (fn : Func) (c : Code), C0.P.funcs[g]? = some fn ∧ fn.body = some c) (h : CallOk C0 g args St.nil r St.nil) (hM : MemoOk C0 M) : MemoOk C0 ((g, args, r) :: M) := fun e he => by
  rcases List.mem_cons.1 he with rfl | he
  · exact ⟨hb, h⟩
  · exact hM e he

theorem memoHk_ok {C : Cx} {M : Memo} (hgt : GtPlain C) (hM : MemoOk C M) {g : FuncId} {args : List AV} {S S' : St} {r : CR} (h : memoHk M g args S = some (r, S')) :
    ((∃ (fn : Func) (c : Code), C.P.funcs[g]? = some fn ∧ fn.body = some c) ∧ CallOk C g args S r S') ∧ S' = S := by
  unfold memoHk at h
  split at h
  · rename_i e he
    cases h
    have h1 := List.find?_some he
    have h2 := List.mem_of_find?_eq_some he
    simp only [Bool.and_eq_true] at h1
    obtain ⟨h3, h4, h5⟩ := h1
    have h3 := Nat.eq_of_beq_eq_true h3
    have h5 := AV.eqbL_eq _ _ h5
    obtain ⟨h6, h7⟩ := hM e h2
    rw [h3] at h6 h7
    rw [h5] at h7
    exact ⟨⟨h6, h7.frame hgt h4 S⟩, rfl⟩
  · cases h

theorem fieldsEq_memo {C : Cx} (M : Memo) : ∀ (fs : List Field) (l m : List AV), fieldsEq (C.memo M) fs l m = fieldsEq C fs l m
  | [], l, m => by cases l <;> cases m <;> rfl
  | f :: fs, [], m => by cases m <;> rfl
  | f :: fs, a :: l, [] => rfl
  | f :: fs, a :: l, b :: m => by simp only [fieldsEq, fieldsEq_memo M fs]; rfl
theorem flatF_memo {C : Cx} (M : Memo) : ∀ (fs : List Field), flatF (C.memo M) fs = flatF C fs
  | [] => rfl
  | f :: fs => by simp only [flatF, flatF_memo M fs]; rfl
theorem EqtOk.memo {C : Cx} (M : Memo) (h : EqtOk C) : EqtOk (C.memo M) := fun t ht => by
  obtain ⟨h1, h2⟩ := h t ht
  refine ⟨h1, fun fs G w l m b xs ys hu hl hm hs hf => h2 fs G w l m b xs ys hu hl hm hs ?_⟩
  rw [← fieldsEq_memo M, ← flatF_memo M]
  exact hf
theorem memo_ok {C : Cx} {M : Memo} (hC : CxOk C) (hgt : GtPlain C) (hM : MemoOk C M) : CxOk (C.memo M) where
  eqt := hC.eqt.memo M
  hk := fun g f h args S r S' hr => by
    simp only [Cx.memo] at h
    split at h
    · cases h
      exact (memoHk_ok hgt hM hr).1
    · exact hC.hk g f h args S r S' hr
  codes := hC.codes
  nat := hC.nat
  mixed := hC.mixed
  names := hC.names
theorem memo_w {C : Cx} {M : Memo} (hw : HkW C) (hgt : GtPlain C) (hM : MemoOk C M) : HkW (C.memo M) := by
  intro g f h args S r S' hr
  simp only [Cx.memo] at h
  split at h
  · cases h
    obtain ⟨_, rfl⟩ := memoHk_ok hgt hM hr
    exact Wl.refl _
  · exact hw g f h args S r S' hr

/-- What the kernel's run of a call says. -/
theorem call_of_run {C : Cx} (hC : CxOk C) (hw : HkW C) {n : Nat} {g : FuncId} {args : List AV} {r : CR} (h : (levT C n).call g args St.nil = some (r, St.nil)) : CallOk C g args St.nil r St.nil :=
  ((lev_ok hC hw n).call _ _ _ _ _ ((levT_ok n).call _ _ _ _ h)).2
end Go.Ev
