/- Contracts of functions of the program and of the reference. -/
import Derived.Test.YtljjkomdibkjpaaGreatDoorK11
import Derived.Test.YtljjkomdibkjpaaGreatDoorAliveZ
import Derived.KernelRfl
set_option linter.unusedVariables false
set_option linter.unusedSimpArgs false
/-! VC24 -/
set_option maxRecDepth 100000
set_option linter.unusedVariables false
namespace Go.Ev
end Go.Ev
namespace Go.Proofs
open Go Go.Ev
def encPs : List Prf → List AV
  | [] => []
  | p :: l => encP p ++ encPs l
/-- The small profiles. -/
def profL : List Prf := (List.range 120).map fun i => ⟨1 + (i / 24 : Nat), (i / 8 % 3 : Nat), decide (i / 4 % 2 = 1), decide (i / 2 % 2 = 1), decide (i % 2 = 1), 0, 0⟩
def RPl (pl : List AV) : Spc := fun args => match args with
  | [] => some (True, .ret (.vs pl 120 .none))
  | _ => none
def pK (B : Nat → Nat → Bool) (i j : Nat) : List Nat → Option (Nat × Nat × Nat)
  | [] => none
  | k :: l => if (B i j && B j k && B k i) = true then some (i, j, k) else pK B i j l
def pJ (B : Nat → Nat → Bool) (n i : Nat) : List Nat → Option (Nat × Nat × Nat)
  | [] => none
  | j :: l => match pK B i j (List.range n) with
    | some x => some x
    | none => pJ B n i l
def pI (B : Nat → Nat → Bool) (n : Nat) : List Nat → Option (Nat × Nat × Nat)
  | [] => none
  | i :: l => match pJ B n i (List.range n) with
    | some x => some x
    | none => pI B n l
/-- A goes before b. -/
def befP (rs : List Rul) (p q : Prf) : Bool := kindV (decV rs p q).1 (decV rs p q).2 == 1
def befB (rs : List Rul) (i j : Nat) : Bool := match profL[i]?, profL[j]? with
  | some p, some q => befP rs p q
  | _, _ => false
def circV : Option (Nat × Nat × Nat) → List Prf
  | some (i, j, k) => (profL[i]?).toList ++ (profL[j]?).toList ++ (profL[k]?).toList
  | none => []
def circR (rs : List Rul) : List Prf × Bool × Int := if chk rs = 0 then (circV (pI (befB rs) 120 (List.range 120)), (pI (befB rs) 120 (List.range 120)).isSome, 0) else ([], false, chk rs)
noncomputable def circE (l : List AV) : List Prf × Bool × Int := onEnc encRs circR ([], false, 0) l
def tkP (l : List Prf) : Tok := if l.length = 0 then .zero else .none
noncomputable def R35 : Spc := fun args => match args with
  | [.agg [.vs l len .none]] => some (∃ rs, l = encRs rs ∧ len = rs.length ∧ wfRs rs, .ret (.tup [.vs (encPs (circE l).1) (circE l).1.length (tkP (circE l).1), Bo (circE l).2.1, I (circE l).2.2]))
  | _ => none
noncomputable def R37 : Spc := fun args => match args with
  | [.vs a n _, .vs b m _] => some ((∃ x, a = encPs x ∧ n = x.length ∧ x.length ≤ 1000) ∧ b = a ∧ m = n, rB true)
  | _ => none
def lm37 : List (Nat × List Nat) := [(4, [0, 1, 5]), (8, [])]
noncomputable def Tryz.X37 : WCx := Tryz.B.wcx [] lm37
noncomputable def l9 : List (FuncId × Spc) := [(20, R20), (24, R24), (35, R35), (36, R35), (37, R37)]
noncomputable def Tryz.X9 : WCx := Tryz.B.wcx l9
theorem v37 (a b : List AV) (n m : Nat) (ta tb : Tok) (Q : CR → Prop) : wpF Tryz.X37 37 [.vs a n ta, .vs b m tb] Q =
  (cIf ((↑n : Int) != (↑m : Int)) (Q (CR.ret (Bo false))) (WLoop Tryz.X37 (cd Tryz.X37.P 37 [1, 1, 0, 1, 0, 0]) ([AV.vs a n ta, AV.vs b m tb, X, X, X, I (0 : Int)] ++ List.replicate 20 X) (St.mk [] [] []) (kBlock 0 (kSeq Tryz.X37 (cd Tryz.X37.P 37 [1, 1, 1]) (kRet Tryz.X37 37 Q))))) := by kernel_rfl
theorem v9 (l : List AV) (len : Nat) (Q : CR → Prop) : wpF Tryz.X9 9 [.agg [.vs l len .none]] Q =
  ((∃ (rs : List Rul), l = encRs rs ∧ len = rs.length ∧ wfRs rs ∧ (0 : Int) ≤ (40 : Int) ∧ (40 : Int) ≤ (1000 : Int)) ∧ cIf (!onEnc encRs (fewB (40 : Int)) false l) (True ∧ Q (CR.ret (Bo true))) ((∃ (rs : List Rul), l = encRs rs ∧ len = rs.length ∧ wfRs rs) ∧ (∃ (rs : List Rul), l = encRs rs ∧ len = rs.length ∧ wfRs rs) ∧ True ∧ cIf ((circE l).snd.fst == (circE l).snd.fst) (cIf ((circE l).snd.snd == (circE l).snd.snd) (((∃ (x : List Prf), encPs (circE l).fst = encPs x ∧ (circE l).fst.length = x.length ∧ x.length ≤ 1000) ∧ encPs (circE l).fst = encPs (circE l).fst ∧ (circE l).fst.length = (circE l).fst.length) ∧ Q (CR.ret (Bo true))) (Q (CR.ret (Bo false)))) (Q (CR.ret (Bo false))))) := by kernel_rfl
end Go.Proofs
/-! C24 -/
set_option maxRecDepth 100000
set_option linter.unusedVariables false
namespace Go.Ev
def encB (l : List Bool) : List AV := l.map AV.bool
theorem encB_noH (n : Nat) : ∀ l : List Bool, noHL n (encB l) = true
  | [] => rfl
  | a :: l => by have := encB_noH n l; simp [encB, noHL, noH] at this ⊢; exact this
theorem noHL_mem {n : Nat} : ∀ {l : List AV}, noHL n l = true ↔ ∀ v ∈ l, noH n v = true
  | [] => by simp [noHL]
  | a :: l => by simp [noHL, noHL_mem (l := l)]
end Go.Ev
namespace Go.Proofs
open Go Go.Ev
/-! Profiles. -/
/-! The searches. -/
def fnd (x : Nat × Nat × Nat) : CR := .ret (.tup [.vs (encPs (circV (some x))) 3 .none, Bo true, I 0])
/-! The program's rows. -/
def brow (rs : List Rul) (i : Nat) (n : Nat) : List Bool := (List.range n).map (befB rs i)
structure RowsI (rs : List Rul) (rw : List AV) (i : Nat) : Prop where
  len : rw.length = 120
  nh : ∀ n, noHL n rw = true
  done : ∀ x, x < i → ∃ t, rw[x]? = some (.vs (encB (brow rs x 120)) 120 t)
  rest : ∀ x, i ≤ x → x < 120 → rw[x]? = some (.vs [] 0 .zero)
structure RowsJ (rs : List Rul) (rw : List AV) (T : List (Nat × (Nat × Nat))) (i j : Nat) : Prop where
  len : rw.length = 120
  nh : ∀ n, noHL n rw = true
  done : ∀ x, x < i → ∃ t, rw[x]? = some (.vs (encB (brow rs x 120)) 120 t)
  cur : ∃ t, rw[i]? = some (.vs (encB (brow rs i j)) j t) ∧ (t = .zero ∧ j = 0 ∨ ∃ k, t = .own k ∧ T[k]? = some (j, 1, 4))
  rest : ∀ x, i < x → x < 120 → rw[x]? = some (.vs [] 0 .zero)
theorem RowsJ.put {rs : List Rul} {rw : List AV} {T T' : List (Nat × (Nat × Nat))} {i j k : Nat} (h : RowsJ rs rw T i j) (hi : i < 120) (hT : T'[k]? = some (j + 1, 1, 4)) : RowsJ rs (rw.set i (.vs (encB (brow rs i (j + 1))) (j + 1) (.own k))) T' i (j + 1) := by
  have hl := h.len
  refine ⟨by simp [hl], fun n => ?_, fun x hx => ?_, ⟨.own k, ?_, .inr ⟨k, rfl, hT⟩⟩, fun x h1 h2 => ?_⟩
  · rw [noHL_mem]
    intro v hv
    rcases List.mem_or_eq_of_mem_set hv with h1 | h1
    · exact noHL_mem.1 (h.nh n) v h1
    · subst h1
      simp [noH, encB_noH]
  · rw [List.getElem?_set_ne (by omega)]; exact h.done x hx
  · rw [List.getElem?_set_self (by omega)]
  · rw [List.getElem?_set_ne (by omega)]; exact h.rest x h1 h2
section
variable (hp : Ct Tryz.B.c0 38 (RPl (encPs profL))) {rs : List Rul} (hrs : okRs rs) (hsh : ∀ x ∈ rs, shT x.t = true) {Q : CR → Prop}
include hp hrs hsh
end
end Go.Proofs
/-! C25 -/
set_option maxRecDepth 100000
set_option linter.unusedVariables false
namespace Go.Proofs
open Go Go.Ev
/-! The reference. -/
structure BitsI (rs : List Rul) (b : List Bool) (i j : Nat) : Prop where
  len : b.length = 14400
  done : ∀ x y, (x < i ∨ x = i ∧ y < j) → x < 120 → y < 120 → b.getD (x * 120 + y) false = befB rs x y
theorem BitsI.put {rs : List Rul} {b : List Bool} {i j : Nat} (h : BitsI rs b i j) (hi : i < 120) (hj : j < 120) : BitsI rs (b.set (i * 120 + j) (befB rs i j)) i (j + 1) := by
  have hl := h.len
  refine ⟨by simp [hl], fun x y hxy hx hy => ?_⟩
  by_cases he : x * 120 + y = i * 120 + j
  · have h1 : x = i := by omega
    have h2 : y = j := by omega
    subst h1; subst h2
    rw [List.getD_eq_getElem?_getD, List.getElem?_set_self (by omega)]; rfl
  · rw [List.getD_eq_getElem?_getD, List.getElem?_set_ne (by omega), ← List.getD_eq_getElem?_getD]
    exact h.done x y (by omega) hx hy
theorem BitsI.next {rs : List Rul} {b : List Bool} {i : Nat} (h : BitsI rs b i 120) : BitsI rs b (i + 1) 0 :=
  ⟨h.len, fun x y hxy hx hy => h.done x y (by omega) hx hy⟩
section
variable (hp : Ct Tryz.B.c0 54 (RPl (encPs profL))) {rs : List Rul} {Q : CR → Prop}
include hp
variable (hrs : okRs rs)
include hrs
end
end Go.Proofs
/-! C26 -/
set_option maxRecDepth 100000
set_option linter.unusedVariables false
namespace Go.Proofs
open Go Go.Ev
/-! Profiles: a run. -/
/-! The same profiles. -/
end Go.Proofs
