/- Contracts of functions of the program and of the reference. -/
import Derived.Test.YtdpfgjljehajbaaGreatDoorK1
set_option linter.unusedVariables false
set_option linter.unusedSimpArgs false
/-! VTI -/
set_option maxRecDepth 100000
set_option linter.unusedVariables false
namespace Go.Proofs
open Go Go.Ev
theorem v118 (n a b : Int) (Q : CR → Prop) : wpF Tryz.X0 118 [I n, I a, I b] Q =
  (cIf (decide (n ≥ a)) (Q (CR.ret (Bo (decide (n ≤ b))))) (Q (CR.ret (Bo false)))) := by kernel_rfl
end Go.Proofs
/-! TI -/
set_option maxRecDepth 100000
set_option linter.unusedVariables false
namespace Go.Proofs
open Go Go.Ev
def R118 : Spc := fun args => match args with
  | [.int .i64 n, .int .i64 a, .int .i64 b] => some (True, rB (decide (a ≤ n) && decide (n ≤ b)))
  | _ => none
theorem ct118 : Ct Tryz.B.c0 118 R118 := Ct.of_wp (lm := []) Tryz.bok (Cts.nil _) ⟨_, _, Tryz.func118, rfl⟩ fun args D r hR hD => by
  unfold R118 at hR
  split at hR <;> cases hR
  refine ⟨rfl, (v118 _ _ _ _).mpr ?_⟩
  repeat' (refine cIf_intro (fun h => ?_) (fun h => ?_))
  all_goals (apply rB_eq; simp at *; omega)
end Go.Proofs
/-! TI2 -/
set_option maxRecDepth 100000
set_option linter.unusedVariables false
namespace Go.Proofs
open Go Go.Ev
end Go.Proofs
/-! VTJ -/
set_option maxRecDepth 100000
set_option linter.unusedVariables false
namespace Go.Ev
end Go.Ev
namespace Go.Proofs
open Go Go.Ev
end Go.Proofs
/-! TJ -/
set_option maxRecDepth 100000
set_option linter.unusedVariables false
namespace Go.Ev
/-! Both ways. -/
end Go.Ev
namespace Go.Proofs
open Go Go.Ev
end Go.Proofs
/-! VTK -/
set_option maxRecDepth 100000
set_option linter.unusedVariables false
namespace Go.Proofs
open Go Go.Ev
end Go.Proofs
/-! TK -/
set_option maxRecDepth 100000
set_option linter.unusedVariables false
namespace Go.Proofs
open Go Go.Ev
end Go.Proofs
