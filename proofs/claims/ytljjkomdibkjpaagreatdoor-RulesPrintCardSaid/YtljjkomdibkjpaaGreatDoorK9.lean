/- Contracts of functions of the program and of the reference. -/
import Derived.Test.YtljjkomdibkjpaaGreatDoorK8
set_option linter.unusedVariables false
set_option linter.unusedSimpArgs false
/-! VC19 -/
set_option maxRecDepth 100000
set_option linter.unusedVariables false
namespace Go.Proofs
open Go Go.Ev
/-- The test of a rule's cells. -/
def elT3 (E : List AV) : List AV := [U (cI E 3), U (cI E 4), U (cI E 5), I (cI E 6), .vs (cL E 7) (cN E 7) (cT E 7)]
/-- The indices by rank. -/
def rankL (rs : List Rul) : List Nat := stab (ltR rs) rs.length (List.range rs.length)
/-- Does a rule hold? -/
def thR (rs : List Rul) (p q : Prf) (i : Nat) : Bool := match rs[i]? with | some x => hoT x.t p q | none => false
def kindV (v w : Int) : Int := if v ≥ 0 ∧ w ≥ 0 then 3 else if v ≥ 0 then 1 else if w ≥ 0 then 2 else 0
/-- What rules decide. -/
def decV (rs : List Rul) (p q : Prf) : Int × Int := decP (rkR rs) (thR rs p q) (thR rs q p) (rankL rs) (-1) (-1) 0
/-- Kind, rule, back, error. -/
def verdE (rs : List Rul) (p q : Prf) : Int × Int × Int × Int := if bothE rs p q = 0 then (kindV (decV rs p q).1 (decV rs p q).2, (decV rs p q).1, (decV rs p q).2, 0) else (0, 0, 0, bothE rs p q)
end Go.Proofs
/-! C19 -/
set_option maxRecDepth 100000
set_option linter.unusedVariables false
namespace Go.Proofs
open Go Go.Ev
section
variable {n c : Nat} (hn : n ≤ 24) {rs : List Rul} (hrs : okRs rs) {Q : CR → List (Option HB) → Prop}
include hn hrs
end
/-! The ranked indices. -/
end Go.Proofs
/-! C20 -/
set_option maxRecDepth 100000
set_option linter.unusedVariables false
namespace Go.Ev
theorem noHL_rep (n : Nat) : ∀ k : Nat, noHL n (List.replicate k AV.bad) = true
  | 0 => rfl
  | k + 1 => by rw [List.replicate_succ, noHL, noHL_rep n k]; rfl
theorem noHL_app {n : Nat} {l m : List AV} (h1 : noHL n l = true) (h2 : noHL n m = true) : noHL n (l ++ m) = true := by rw [noHL_append, h1, h2]; rfl
end Go.Ev
namespace Go.Proofs
open Go Go.Ev
theorem elT3_enc (x : Rul) : elT3 (encR x) = encT x.t := by rw [encT_eq]; rfl
/-! ranked -/
/-! decide -/
section
variable {rs : List Rul} (hrs : okRs rs) (hsh : ∀ x ∈ rs, shT x.t = true) {p q : Prf} {ord : List Nat} (hol : ord.length ≤ 24) (hom : ∀ x ∈ ord, x < rs.length) {Q : CR → Prop}
include hrs hsh hol hom
end
/-! Decide -/
theorem chkL_ok : ∀ (l prev : List Rul), chkL prev l = 0 → ∀ x ∈ l, rangesB x = true ∧ smallB x.t = true ∧ shT x.t = true ∧ isWordB x.name = true
  | [], prev, h, x, hx => by simp at hx
  | y :: l, prev, h, x, hx => by
    simp only [chkL] at h
    by_cases h1 : isWordB y.name = false
    · rw [if_pos h1] at h; cases h
    · rw [if_neg h1] at h
      by_cases h2 : (prev.any fun z => z.name == y.name) = true
      · rw [if_pos h2] at h; cases h
      · rw [if_neg h2] at h
        by_cases h3 : rangesB y = false
        · rw [if_pos h3] at h; cases h
        · rw [if_neg h3] at h
          by_cases h4 : smallB y.t = false
          · rw [if_pos h4] at h; cases h
          · rw [if_neg h4] at h
            by_cases h5 : shT y.t = false
            · rw [if_pos h5] at h; cases h
            · rw [if_neg h5] at h
              rcases List.mem_cons.1 hx with rfl | hx
              · exact ⟨by simpa using h3, by simpa using h4, by simpa using h5, by simpa using h1⟩
              · exact chkL_ok l _ h x hx
theorem chk_ok {rs : List Rul} (hw : wfRs rs) (h : chk rs = 0) : okRs rs ∧ (∀ x ∈ rs, shT x.t = true) ∧ ∀ x ∈ rs, smallB x.t = true ∧ rangesB x = true ∧ isWordB x.name = true := by
  unfold chk at h
  by_cases h1 : rs.length > 24
  · rw [if_pos h1] at h; cases h
  · rw [if_neg h1] at h
    have h2 := chkL_ok rs [] h
    refine ⟨⟨hw, by omega, fun x hx => ?_⟩, fun x hx => (h2 x hx).2.2.1, fun x hx => ⟨(h2 x hx).2.1, (h2 x hx).1, (h2 x hx).2.2.2⟩⟩
    have := (h2 x hx).1
    simp only [rangesB, Bool.and_eq_true, decide_eq_true_eq] at this
    exact this.1
end Go.Proofs
