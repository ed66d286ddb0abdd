/- Contracts of functions of the program and of the reference. -/
import Derived.Test.YtljjkomdibkjpaaGreatDoorK9
import Derived.Test.YtljjkomdibkjpaaGreatDoorAliveZ
set_option linter.unusedVariables false
set_option linter.unusedSimpArgs false
/-! VC21 -/
set_option maxRecDepth 100000
set_option linter.unusedVariables false
namespace Go.Proofs
open Go Go.Ev
def R20 : Spc := fun args => match args with
  | [] => some (True, rB true)
  | _ => none
end Go.Proofs
/-! C21 -/
set_option maxRecDepth 100000
set_option linter.unusedVariables false
namespace Go.Proofs
open Go Go.Ev
theorem ct20 : Ct Tryz.B.c0 20 R20 where
  body := ⟨_, _, Tryz.func20, rfl⟩
  ok := fun args D r hR hD => by
    unfold R20 at hR
    split at hR <;> cases hR
    exact ⟨rfl, fun G w us h1 h2 h3 => Tryz.aliveOk G w us h1 h2 h3⟩
/-! ### P2.4 -/
/-- Profiles that compare alike. -/
structure Sim (p q p' q' : Prf) : Prop where
  a : p'.cl = p.cl ∧ p'.vi = p.vi ∧ p'.ho = p.ho ∧ p'.de = p.de ∧ p'.mo = p.mo
  b : q'.cl = q.cl ∧ q'.vi = q.vi ∧ q'.ho = q.ho ∧ q'.de = q.de ∧ q'.mo = q.mo
  c : (p'.cr < q'.cr ↔ p.cr < q.cr) ∧ (q'.cr < p'.cr ↔ q.cr < p.cr)
  l : (p'.le < q'.le ↔ p.le < q.le) ∧ (q'.le < p'.le ↔ q.le < p.le)
theorem Sim.at' {p q p' q' : Prf} (h : Sim p q p' q') (a : Int) : (atI a p' < atI a q' ↔ atI a p < atI a q) ∧ (atI a q' < atI a p' ↔ atI a q < atI a p) := by
  obtain ⟨a1, a2, a3, a4, a5⟩ := h.a
  obtain ⟨b1, b2, b3, b4, b5⟩ := h.b
  unfold atI
  rw [a1, a2, a3, a4, a5, b1, b2, b3, b4, b5]
  repeat' split
  all_goals first
    | exact h.c
    | exact h.l
    | exact ⟨Iff.rfl, Iff.rfl⟩
/-! ### P2.3 -/
end Go.Proofs
