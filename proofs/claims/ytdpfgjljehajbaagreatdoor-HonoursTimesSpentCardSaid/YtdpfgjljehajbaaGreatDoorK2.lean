/- Contracts of functions of the program and of the reference. -/
import Derived.Test.YtdpfgjljehajbaaGreatDoorK1
set_option linter.unusedVariables false
set_option linter.unusedSimpArgs false
/-! VTI -/
set_option maxRecDepth 100000
set_option linter.unusedVariables false
namespace Go.Proofs
open Go Go.Ev
theorem v115 (n : Int) (Q : CR → Prop) : wpF Tryz.X0 115 [I n] Q =
  (cIf (decide (n ≥ (0 : Int))) (Q (CR.ret (Bo (decide (n ≤ (144001439 : Int)))))) (Q (CR.ret (Bo false)))) := by kernel_rfl
end Go.Proofs
/-! TI -/
set_option maxRecDepth 100000
set_option linter.unusedVariables false
namespace Go.Proofs
open Go Go.Ev
def R115 : Spc := fun args => match args with
  | [.int .i64 n] => some (True, rB (decide (0 ≤ n) && decide (n ≤ 144001439)))
  | _ => none
theorem ct115 : Ct Tryz.B.c0 115 R115 := Ct.of_wp (lm := []) Tryz.bok (Cts.nil _) ⟨_, _, Tryz.func115, rfl⟩ fun args D r hR hD => by
  unfold R115 at hR
  split at hR <;> cases hR
  refine ⟨rfl, (v115 _ _).mpr ?_⟩
  repeat' (refine cIf_intro (fun h => ?_) (fun h => ?_))
  all_goals (apply rB_eq; simp at *; omega)
end Go.Proofs
/-! TI2 -/
set_option maxRecDepth 100000
set_option linter.unusedVariables false
namespace Go.Proofs
open Go Go.Ev
end Go.Proofs
/-! VTJ -/
set_option maxRecDepth 100000
set_option linter.unusedVariables false
namespace Go.Ev
end Go.Ev
namespace Go.Proofs
open Go Go.Ev
end Go.Proofs
/-! TJ -/
set_option maxRecDepth 100000
set_option linter.unusedVariables false
namespace Go.Ev
/-! Both ways. -/
end Go.Ev
namespace Go.Proofs
open Go Go.Ev
end Go.Proofs
/-! VTK -/
set_option maxRecDepth 100000
set_option linter.unusedVariables false
namespace Go.Proofs
open Go Go.Ev
end Go.Proofs
/-! TK -/
set_option maxRecDepth 100000
set_option linter.unusedVariables false
namespace Go.Proofs
open Go Go.Ev
end Go.Proofs
