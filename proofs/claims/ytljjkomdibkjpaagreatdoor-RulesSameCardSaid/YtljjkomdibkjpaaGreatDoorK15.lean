/- Contracts of functions of the program and of the reference. -/
import Derived.Test.YtljjkomdibkjpaaGreatDoorK14
set_option linter.unusedVariables false
set_option linter.unusedSimpArgs false
/-! VC41 -/
set_option maxRecDepth 100000
set_option linter.unusedVariables false
-- elP
namespace Go.Proofs
open Go Go.Ev
def encW (p q : Prf) (a b : Int) : List AV := [I p.cl, I p.vi, Bo p.ho, Bo p.de, Bo p.mo, I p.cr, I p.le, I q.cl, I q.vi, Bo q.ho, Bo q.de, Bo q.mo, I q.cr, I q.le, I a, I b]
def R85 : Spc := fun args => match args with
  | [] => some (True, .ret (.fn (.func 127) [] []))
  | _ => none
def R86 : Spc := fun args => match args with
  | [.vs l n .none, .int .i64 i] => some (l = encPs profL ∧ n = 120 ∧ 0 ≤ i ∧ i < 129600, .ret (.tup [.agg (encP (caseAt i.toNat).1), .agg (encP (caseAt i.toNat).2)]))
  | _ => none
/-- What a search finds. -/
structure Wit where
  p : Prf
  q : Prf
  a : Int
  b : Int
  f : Bool
  e : Int
def zWit : Wit := ⟨zPr, zPr, 0, 0, false, 0⟩
def Wit.ret (w : Wit) : CR := .ret (.tup [.agg (encW w.p w.q w.a w.b), Bo w.f, I w.e])
def foundW (x : Option (Prf × Prf)) (a b : Prf × Prf → Int) : Wit := match x with
  | some x => ⟨x.1, x.2, a x, b x, true, 0⟩
  | none => zWit
def errW (e : Int) : Wit := ⟨zPr, zPr, 0, 0, false, e⟩
def isClash (rs : List Rul) (x : Prf × Prf) : Bool := kindV (decV rs x.1 x.2).1 (decV rs x.1 x.2).2 == 3
def clashR (rs : List Rul) : Wit := if chk rs = 0 then foundW (csL.find? (isClash rs)) (fun x => (decV rs x.1 x.2).1) (fun x => (decV rs x.1 x.2).2) else errW (chk rs)
noncomputable def Tryz.X85 : WCx := Tryz.B.wcx []
noncomputable def Tryz.X86 : WCx := Tryz.B.wcx []
theorem v85 (Q : CR → Prop) : wpF Tryz.X85 85 [] Q =
  (Q (CR.ret (AV.fn (Fn.func 127) [] []))) := by kernel_rfl
theorem v86 (l : List AV) (i : Int) (Q : CR → Prop) : wpF Tryz.X86 86 [.vs l 120 .none, I i] Q =
  (cIf (decide ((0 : Int) ≤ IntKind.i64.wrap (i.tdiv (1080 : Int)))) (cIf (decide ((IntKind.i64.wrap (i.tdiv (1080 : Int))).toNat < 120)) (cIf (decide (840 = l.length)) (cIf (decide (7 ≤ (List.drop ((IntKind.i64.wrap (i.tdiv (1080 : Int))).toNat * 7) l).length)) (cIf (like zP (el (List.drop ((IntKind.i64.wrap (i.tdiv (1080 : Int))).toNat * 7) l) 0 7)) (cIf (decide ((0 : Int) ≤ (IntKind.i64.wrap (i.tdiv (9 : Int))).tmod (120 : Int))) (cIf (decide (((IntKind.i64.wrap (i.tdiv (9 : Int))).tmod (120 : Int)).toNat < 120)) (cIf (decide (840 = l.length)) (cIf (decide (7 ≤ (List.drop (((IntKind.i64.wrap (i.tdiv (9 : Int))).tmod (120 : Int)).toNat * 7) l).length)) (cIf (like zP (el (List.drop (((IntKind.i64.wrap (i.tdiv (9 : Int))).tmod (120 : Int)).toNat * 7) l) 0 7)) (Q (CR.ret (AV.tup [AV.agg [I (cI (el (List.drop ((IntKind.i64.wrap (i.tdiv (1080 : Int))).toNat * 7) l) 0 7) 0), I (cI (el (List.drop ((IntKind.i64.wrap (i.tdiv (1080 : Int))).toNat * 7) l) 0 7) 1), Bo (cB (el (List.drop ((IntKind.i64.wrap (i.tdiv (1080 : Int))).toNat * 7) l) 0 7) 2), Bo (cB (el (List.drop ((IntKind.i64.wrap (i.tdiv (1080 : Int))).toNat * 7) l) 0 7) 3), Bo (cB (el (List.drop ((IntKind.i64.wrap (i.tdiv (1080 : Int))).toNat * 7) l) 0 7) 4), I (IntKind.i64.wrap (((IntKind.i64.wrap (i.tdiv (3 : Int))).tmod (3 : Int)).tdiv (2 : Int))), I (IntKind.i64.wrap ((i.tmod (3 : Int)).tdiv (2 : Int)))], AV.agg [I (cI (el (List.drop (((IntKind.i64.wrap (i.tdiv (9 : Int))).tmod (120 : Int)).toNat * 7) l) 0 7) 0), I (cI (el (List.drop (((IntKind.i64.wrap (i.tdiv (9 : Int))).tmod (120 : Int)).toNat * 7) l) 0 7) 1), Bo (cB (el (List.drop (((IntKind.i64.wrap (i.tdiv (9 : Int))).tmod (120 : Int)).toNat * 7) l) 0 7) 2), Bo (cB (el (List.drop (((IntKind.i64.wrap (i.tdiv (9 : Int))).tmod (120 : Int)).toNat * 7) l) 0 7) 3), Bo (cB (el (List.drop (((IntKind.i64.wrap (i.tdiv (9 : Int))).tmod (120 : Int)).toNat * 7) l) 0 7) 4), I (IntKind.i64.wrap ((IntKind.i64.wrap ((2 : Int) - (IntKind.i64.wrap (i.tdiv (3 : Int))).tmod (3 : Int))).tdiv (2 : Int))), I (IntKind.i64.wrap ((IntKind.i64.wrap ((2 : Int) - i.tmod (3 : Int))).tdiv (2 : Int)))]]))) False) False) False) False) False) False) False) False) False) False) := by kernel_rfl
end Go.Proofs
/-! C41 -/
set_option maxRecDepth 100000
set_option linter.unusedVariables false
namespace Go.Proofs
open Go Go.Ev
/-! The cases by their numbers, as the reference has them. -/
theorem ct85 : Ct Tryz.B.c0 85 R85 := Ct.of_wp (l := []) (lm := []) (tp := []) (ct := []) (sm := []) Tryz.bok (Cts.nil _) ⟨_, _, Tryz.func85, rfl⟩ fun args D r hR hD => by
  unfold R85 at hR
  split at hR <;> cases hR
  refine ⟨rfl, ?_⟩
  show wpF Tryz.X85 85 [] _
  rw [v85]
theorem tdN (n k : Nat) : ((n : Int)).tdiv (k : Int) = ((n / k : Nat) : Int) := rfl
theorem tmN (n k : Nat) : ((n : Int)).tmod (k : Int) = ((n % k : Nat) : Int) := rfl
theorem wyI (c : Nat) (hc : c < 3) : IntKind.i64.wrap (((c : Nat) : Int).tdiv 2) = (wy c).1 ∧ IntKind.i64.wrap ((IntKind.i64.wrap (2 - ((c : Nat) : Int))).tdiv 2) = (wy c).2 := by
  match c, hc with
  | 0, _ => exact ⟨by kernel_rfl, by kernel_rfl⟩
  | 1, _ => exact ⟨by kernel_rfl, by kernel_rfl⟩
  | 2, _ => exact ⟨by kernel_rfl, by kernel_rfl⟩
theorem w86 {n : Nat} (hn : n < 129600) {Q : CR → Prop} (hQ : Q (.ret (.tup [.agg (encP (caseAt n).1), .agg (encP (caseAt n).2)]))) : wpF Tryz.X86 86 [.vs (encPs profL) 120 .none, I n] Q := by
  rw [v86]
  have e1 : IntKind.i64.wrap ((n : Int).tdiv (1080 : Int)) = ((n / 1080 : Nat) : Int) := by rw [show (1080 : Int) = ((1080 : Nat) : Int) from rfl, tdN, wrap_id (by omega) (by omega)]
  have e2 : (IntKind.i64.wrap ((n : Int).tdiv (9 : Int))).tmod (120 : Int) = ((n / 9 % 120 : Nat) : Int) := by rw [show (9 : Int) = ((9 : Nat) : Int) from rfl, tdN, wrap_id (by omega) (by omega), show (120 : Int) = ((120 : Nat) : Int) from rfl, tmN]
  have e3 : (IntKind.i64.wrap ((n : Int).tdiv (3 : Int))).tmod (3 : Int) = ((n / 3 % 3 : Nat) : Int) := by rw [show (3 : Int) = ((3 : Nat) : Int) from rfl, tdN, wrap_id (by omega) (by omega), tmN]
  have e4 : (n : Int).tmod (3 : Int) = ((n % 3 : Nat) : Int) := by rw [show (3 : Int) = ((3 : Nat) : Int) from rfl, tmN]
  have h1 : n / 1080 < 120 := by omega
  have h2 : n / 9 % 120 < 120 := by omega
  rw [e1, e2, e3, e4, prof_el (profL_at h1), prof_el (profL_at h2), (wyI (n / 3 % 3) (by omega)).1, (wyI (n / 3 % 3) (by omega)).2, (wyI (n % 3) (by omega)).1, (wyI (n % 3) (by omega)).2]
  exact cIf_pos (row_nn _) (cIf_pos (row_in h1) (cIf_pos (decide_eq_true prof_len) (cIf_pos (decide_eq_true (prof_dl h1)) (cIf_pos (encP_like _) (cIf_pos (row_nn _) (cIf_pos (row_in h2) (cIf_pos (decide_eq_true prof_len) (cIf_pos (decide_eq_true (prof_dl h2)) (cIf_pos (encP_like _) hQ)))))))))
theorem ct86 : Ct Tryz.B.c0 86 R86 := Ct.of_wp (l := []) (lm := []) (tp := []) (ct := []) (sm := []) Tryz.bok (Cts.nil _) ⟨_, _, Tryz.func86, rfl⟩ fun args D r hR hD => by
  unfold R86 at hR
  split at hR <;> cases hR
  rename_i l n i
  obtain ⟨rfl, rfl, h1, h2⟩ := hD
  obtain ⟨m, rfl⟩ : ∃ m : Nat, i = m := ⟨i.toNat, by omega⟩
  refine ⟨by simp [noHL, noH, noH_encPs], ?_⟩
  rw [show scrubL 0 [AV.vs (encPs profL) 120 .none, I m] = [AV.vs (encPs profL) 120 .none, I m] by simp [scrubL, scrub, sc_encPs, Tok.scrub]]
  exact w86 (by omega) rfl
theorem decV_1 {rs : List Rul} (hrs : okRs rs) (p q : Prf) : (decV rs p q).1 = (decR (rkR rs) (thR rs p q) (thR rs q p) (List.range rs.length) (-1) (-1) 0).1 := by rw [dec_same hrs]
theorem decV_2 {rs : List Rul} (hrs : okRs rs) (p q : Prf) : (decV rs p q).2 = (decR (rkR rs) (thR rs p q) (thR rs q p) (List.range rs.length) (-1) (-1) 0).2.1 := by rw [dec_same hrs]
theorem csL_len : csL.length = 129600 := by simp [csL]
theorem csL_drop {i : Nat} (h : i < 129600) : csL.drop i = caseAt i :: csL.drop (i + 1) := by
  have h1 : i < csL.length := by rw [csL_len]; exact h
  rw [List.drop_eq_getElem_cons h1]
  simp [csL]
/-! The first clash. -/
theorem ret_wpC {C : WCx} {c : Code} (hc : c = .ret) {env : Env} {S : St} {k : Kont} (h : wpC C c env S k) : k .ret env S := by subst hc; exact h
section
attribute [local irreducible] wpC wpF
theorem rk_lt (rs : List Rul) : (rankL rs).length = rs.length ∧ ∀ x ∈ rankL rs, x < rs.length := ⟨rankL_len rs, fun x hx => rankL_mem rs x hx⟩
/-- What decide is asked. -/
theorem d78 {rs : List Rul} (hrs : okRs rs) (hsh : ∀ x ∈ rs, shT x.t = true) (p q : Prf) : ((∃ (rs_1 : List Rul), ∃ (ord : List Nat), encRs rs = encRs rs_1 ∧ rs.length = rs_1.length ∧ okRs rs_1 ∧ (∀ (x : Rul), x ∈ rs_1 → shT x.t = true) ∧ encD (rankL rs) = encD ord ∧ rs.length = ord.length ∧ ord.length ≤ 24 ∧ ∀ (x : Nat), x ∈ ord → x < rs_1.length) ∧ (∃ (p_1 : Prf), (encP p) = encP p_1) ∧ ∃ (q_1 : Prf), (encP q) = encP q_1) :=
  ⟨⟨rs, rankL rs, rfl, rfl, hrs, hsh, rfl, (rk_lt rs).1.symm, by rw [(rk_lt rs).1]; exact hrs.2.1, (rk_lt rs).2⟩, ⟨p, rfl⟩, q, rfl⟩
abbrev noY : Yk := fun _ _ _ _ => False
end
/-! The reference's first clash. -/
section
attribute [local irreducible] csL caseAt
variable {rs : List Rul} (hrs : okRs rs) {Q : CR → Prop}
include hrs
end
end Go.Proofs
/-! VC43 -/
set_option maxRecDepth 100000
set_option linter.unusedVariables false
-- elP
namespace Go.Proofs
open Go Go.Ev
def eqP (p q : Prf) : Bool := p.cl == q.cl && (p.vi == q.vi && (p.ho == q.ho && (p.de == q.de && (p.mo == q.mo && (p.cr == q.cr && (p.le == q.le && true))))))
def isGap (rs : List Rul) (x : Prf × Prf) : Bool := !(eqP x.1 x.2) && kindV (decV rs x.1 x.2).1 (decV rs x.1 x.2).2 == 0
def gapR (rs : List Rul) : Wit := if chk rs = 0 then foundW (csL.find? (isGap rs)) (fun _ => 0) (fun _ => 0) else errW (chk rs)
end Go.Proofs
/-! C43 -/
set_option maxRecDepth 100000
set_option linter.unusedVariables false
namespace Go.Proofs
open Go Go.Ev
/-! The first gap. -/
section
attribute [local irreducible] wpC wpF
end
/-! The reference's first clash. -/
section
attribute [local irreducible] csL caseAt
variable {rs : List Rul} (hrs : okRs rs) {Q : CR → Prop}
include hrs
end
end Go.Proofs
