/- Contracts of functions of the program and of the reference. -/
import Derived.Test.YtljjkomdibkjpaaGreatDoorK16
import Derived.Test.YtljjkomdibkjpaaGreatDoorK11
set_option linter.unusedVariables false
set_option linter.unusedSimpArgs false
/-! VCL -/
set_option maxRecDepth 100000
set_option linter.unusedVariables false
-- elP
namespace Go.Proofs
open Go Go.Ev
def RL2 : Spc := fun args => match args with
  | [.agg [.vs l len .none], .agg [.vs m lm .none]] => some ((∃ rs, l = encRs rs ∧ len = rs.length ∧ wfRs rs) ∧ ∃ ss, m = encRs ss ∧ lm = ss.length ∧ wfRs ss, rB true)
  | _ => none
noncomputable def l13 : List (FuncId × Spc) := [(20, R20), (24, R24), (45, R45), (46, R45)]
noncomputable def Tryz.X13 : WCx := Tryz.B.wcx l13
theorem v13 (l m : List AV) (len lm : Nat) (Q : CR → Prop) : wpF Tryz.X13 13 [.agg [.vs l len .none], .agg [.vs m lm .none]] Q =
  ((∃ (rs : List Rul), l = encRs rs ∧ len = rs.length ∧ wfRs rs ∧ (0 : Int) ≤ (12 : Int) ∧ (12 : Int) ≤ (1000 : Int)) ∧ cIf (!onEnc encRs (fewB (12 : Int)) false l) (True ∧ Q (CR.ret (Bo true))) ((∃ (rs : List Rul), m = encRs rs ∧ lm = rs.length ∧ wfRs rs ∧ (0 : Int) ≤ (12 : Int) ∧ (12 : Int) ≤ (1000 : Int)) ∧ cIf (!onEnc encRs (fewB (12 : Int)) false m) (True ∧ Q (CR.ret (Bo true))) (((∃ (rs : List Rul), l = encRs rs ∧ len = rs.length ∧ wfRs rs) ∧ ∃ (ss : List Rul), m = encRs ss ∧ lm = ss.length ∧ wfRs ss) ∧ ((∃ (rs : List Rul), l = encRs rs ∧ len = rs.length ∧ wfRs rs) ∧ ∃ (ss : List Rul), m = encRs ss ∧ lm = ss.length ∧ wfRs ss) ∧ True ∧ cIf ((on2 sameV l m).p.cl == (on2 sameV l m).p.cl && ((on2 sameV l m).p.vi == (on2 sameV l m).p.vi && ((on2 sameV l m).p.ho == (on2 sameV l m).p.ho && ((on2 sameV l m).p.de == (on2 sameV l m).p.de && ((on2 sameV l m).p.mo == (on2 sameV l m).p.mo && ((on2 sameV l m).p.cr == (on2 sameV l m).p.cr && ((on2 sameV l m).p.le == (on2 sameV l m).p.le && ((on2 sameV l m).q.cl == (on2 sameV l m).q.cl && ((on2 sameV l m).q.vi == (on2 sameV l m).q.vi && ((on2 sameV l m).q.ho == (on2 sameV l m).q.ho && ((on2 sameV l m).q.de == (on2 sameV l m).q.de && ((on2 sameV l m).q.mo == (on2 sameV l m).q.mo && ((on2 sameV l m).q.cr == (on2 sameV l m).q.cr && ((on2 sameV l m).q.le == (on2 sameV l m).q.le && ((on2 sameV l m).a == (on2 sameV l m).a && ((on2 sameV l m).b == (on2 sameV l m).b && true)))))))))))))))) (cIf ((on2 sameV l m).f == (on2 sameV l m).f) (Q (CR.ret (Bo ((on2 sameV l m).e == (on2 sameV l m).e)))) (Q (CR.ret (Bo false)))) (Q (CR.ret (Bo false)))))) := by kernel_rfl
end Go.Proofs
/-! CL -/
set_option maxRecDepth 100000
set_option linter.unusedVariables false
namespace Go.Proofs
open Go Go.Ev
section
attribute [local irreducible] csL diffV chk clashR gapR sameV
theorem wit_same (W : Wit) {Q : CR → Prop} (hQ : Q (.ret (Bo true))) : cIf (W.p.cl == W.p.cl && (W.p.vi == W.p.vi && (W.p.ho == W.p.ho && (W.p.de == W.p.de && (W.p.mo == W.p.mo && (W.p.cr == W.p.cr && (W.p.le == W.p.le && (W.q.cl == W.q.cl && (W.q.vi == W.q.vi && (W.q.ho == W.q.ho && (W.q.de == W.q.de && (W.q.mo == W.q.mo && (W.q.cr == W.q.cr && (W.q.le == W.q.le && (W.a == W.a && (W.b == W.b && true)))))))))))))))) (cIf (W.f == W.f) (Q (CR.ret (Bo (W.e == W.e)))) (Q (CR.ret (Bo false)))) (Q (CR.ret (Bo false))) := by
  simp only [BEq.rfl, Bool.and_self, cIf_true]
  exact hQ
theorem c13 : Cts Tryz.B l13 := ((((Cts.nil _).cons ct46).cons ct45).cons ct24).cons ct20
theorem ct13 : Ct Tryz.B.c0 13 RL2 := Ct.of_wp (l := l13) (lm := []) (tp := []) (ct := []) (sm := []) Tryz.bok c13 ⟨_, _, Tryz.func13, rfl⟩ fun args D r hR hD => by
  unfold RL2 at hR
  split at hR <;> cases hR
  obtain ⟨⟨rs, rfl, rfl, hw⟩, ss, rfl, rfl, hw2⟩ := hD
  refine ⟨by simp [noHL, noH, noH_encRs], ?_⟩
  rw [show scrubL 0 [AV.agg [.vs (encRs rs) rs.length .none], AV.agg [.vs (encRs ss) ss.length .none]] = [AV.agg [.vs (encRs rs) rs.length .none], AV.agg [.vs (encRs ss) ss.length .none]] by simp [scrubL, scrub, sc_encRs, Tok.scrub]]
  show wpF Tryz.X13 13 _ _
  rw [v13]
  exact ⟨⟨rs, rfl, rfl, hw, by omega, by omega⟩, cIf_intro (fun h => ⟨trivial, rfl⟩) (fun h => ⟨⟨ss, rfl, rfl, hw2, by omega, by omega⟩, cIf_intro (fun h => ⟨trivial, rfl⟩) (fun h => ⟨⟨⟨rs, rfl, rfl, hw⟩, ss, rfl, rfl, hw2⟩, ⟨⟨rs, rfl, rfl, hw⟩, ss, rfl, rfl, hw2⟩, trivial, wit_same (Q := fun r' => r' = rB true) _ rfl⟩)⟩)⟩
end
end Go.Proofs
