/- Contracts of functions of the program and of the reference. -/
import Derived.Test.YtljjkomdibkjpaaGreatDoorK16
import Derived.Test.YtljjkomdibkjpaaGreatDoorK11
set_option linter.unusedVariables false
set_option linter.unusedSimpArgs false
/-! VCL -/
set_option maxRecDepth 100000
set_option linter.unusedVariables false
-- elP
namespace Go.Proofs
open Go Go.Ev
def RL1 : Spc := fun args => match args with
  | [.agg [.vs l len .none]] => some (∃ rs, l = encRs rs ∧ len = rs.length ∧ wfRs rs, rB true)
  | _ => none
noncomputable def l12 : List (FuncId × Spc) := [(20, R20), (24, R24), (43, R43), (44, R43)]
noncomputable def Tryz.X12 : WCx := Tryz.B.wcx l12
theorem v12 (l : List AV) (len : Nat) (Q : CR → Prop) : wpF Tryz.X12 12 [.agg [.vs l len .none]] Q =
  ((∃ (rs : List Rul), l = encRs rs ∧ len = rs.length ∧ wfRs rs ∧ (0 : Int) ≤ (12 : Int) ∧ (12 : Int) ≤ (1000 : Int)) ∧ cIf (!onEnc encRs (fewB (12 : Int)) false l) (True ∧ Q (CR.ret (Bo true))) ((∃ (rs : List Rul), l = encRs rs ∧ len = rs.length ∧ wfRs rs) ∧ (∃ (rs : List Rul), l = encRs rs ∧ len = rs.length ∧ wfRs rs) ∧ True ∧ cIf ((onEnc encRs gapR zWit l).p.cl == (onEnc encRs gapR zWit l).p.cl && ((onEnc encRs gapR zWit l).p.vi == (onEnc encRs gapR zWit l).p.vi && ((onEnc encRs gapR zWit l).p.ho == (onEnc encRs gapR zWit l).p.ho && ((onEnc encRs gapR zWit l).p.de == (onEnc encRs gapR zWit l).p.de && ((onEnc encRs gapR zWit l).p.mo == (onEnc encRs gapR zWit l).p.mo && ((onEnc encRs gapR zWit l).p.cr == (onEnc encRs gapR zWit l).p.cr && ((onEnc encRs gapR zWit l).p.le == (onEnc encRs gapR zWit l).p.le && ((onEnc encRs gapR zWit l).q.cl == (onEnc encRs gapR zWit l).q.cl && ((onEnc encRs gapR zWit l).q.vi == (onEnc encRs gapR zWit l).q.vi && ((onEnc encRs gapR zWit l).q.ho == (onEnc encRs gapR zWit l).q.ho && ((onEnc encRs gapR zWit l).q.de == (onEnc encRs gapR zWit l).q.de && ((onEnc encRs gapR zWit l).q.mo == (onEnc encRs gapR zWit l).q.mo && ((onEnc encRs gapR zWit l).q.cr == (onEnc encRs gapR zWit l).q.cr && ((onEnc encRs gapR zWit l).q.le == (onEnc encRs gapR zWit l).q.le && ((onEnc encRs gapR zWit l).a == (onEnc encRs gapR zWit l).a && ((onEnc encRs gapR zWit l).b == (onEnc encRs gapR zWit l).b && true)))))))))))))))) (cIf ((onEnc encRs gapR zWit l).f == (onEnc encRs gapR zWit l).f) (Q (CR.ret (Bo ((onEnc encRs gapR zWit l).e == (onEnc encRs gapR zWit l).e)))) (Q (CR.ret (Bo false)))) (Q (CR.ret (Bo false))))) := by kernel_rfl
end Go.Proofs
/-! CL -/
set_option maxRecDepth 100000
set_option linter.unusedVariables false
namespace Go.Proofs
open Go Go.Ev
section
attribute [local irreducible] csL diffV chk clashR gapR sameV
theorem wit_same (W : Wit) {Q : CR → Prop} (hQ : Q (.ret (Bo true))) : cIf (W.p.cl == W.p.cl && (W.p.vi == W.p.vi && (W.p.ho == W.p.ho && (W.p.de == W.p.de && (W.p.mo == W.p.mo && (W.p.cr == W.p.cr && (W.p.le == W.p.le && (W.q.cl == W.q.cl && (W.q.vi == W.q.vi && (W.q.ho == W.q.ho && (W.q.de == W.q.de && (W.q.mo == W.q.mo && (W.q.cr == W.q.cr && (W.q.le == W.q.le && (W.a == W.a && (W.b == W.b && true)))))))))))))))) (cIf (W.f == W.f) (Q (CR.ret (Bo (W.e == W.e)))) (Q (CR.ret (Bo false)))) (Q (CR.ret (Bo false))) := by
  simp only [BEq.rfl, Bool.and_self, cIf_true]
  exact hQ
theorem c12 : Cts Tryz.B l12 := ((((Cts.nil _).cons ct44).cons ct43).cons ct24).cons ct20
theorem ct12 : Ct Tryz.B.c0 12 RL1 := Ct.of_wp (l := l12) (lm := []) (tp := []) (ct := []) (sm := []) Tryz.bok c12 ⟨_, _, Tryz.func12, rfl⟩ fun args D r hR hD => by
  unfold RL1 at hR
  split at hR <;> cases hR
  obtain ⟨rs, rfl, rfl, hw⟩ := hD
  refine ⟨by simp [noHL, noH, noH_encRs], ?_⟩
  rw [show scrubL 0 [AV.agg [.vs (encRs rs) rs.length .none]] = [AV.agg [.vs (encRs rs) rs.length .none]] by simp [scrubL, scrub, sc_encRs, Tok.scrub]]
  show wpF Tryz.X12 12 _ _
  rw [v12]
  exact ⟨⟨rs, rfl, rfl, hw, by omega, by omega⟩, cIf_intro (fun h => ⟨trivial, rfl⟩) (fun h => ⟨⟨rs, rfl, rfl, hw⟩, ⟨rs, rfl, rfl, hw⟩, trivial, wit_same (Q := fun r' => r' = rB true) _ rfl⟩)⟩
end
end Go.Proofs
