/- An evaluator of the model, part 6: ranges over functions. -/
import Derived.Test.YtljjkomdibkjpaaGreatDoorE5
set_option linter.unusedVariables false
set_option linter.unusedSimpArgs false
/-! Ev.Zap -/
set_option linter.unusedVariables false
set_option linter.unusedSimpArgs false
namespace Go.Ev
/-! What a value keeps when its slices' tokens are forgotten. -/
section
variable {B : Base} {l : List (FuncId × Spc)} {lm : List (Nat × List Nat)} {tp ct : List Nat} {sm : List (Nat × Nat)}
end
end Go.Ev
/-! Ev.Str -/
set_option linter.unusedVariables false
set_option linter.unusedSimpArgs false
namespace Go.Ev
/-! Functions without loops, called in the caller's state, tokens and all. -/
abbrev SpcT := List AV → St → Option (Prop × CR × St)
def specT (R : SpcT) (args : List AV) (S : St) (k : CR → St → Prop) : Prop := match R args S with
  | some (D, r, S') => D ∧ k r S'
  | none => False
theorem specT_one (R : SpcT) : One (specT R) := by
  intro args S
  unfold specT
  cases h : R args S with
  | none => exact ⟨(.ret .bad, S), False, fun k => by simp⟩
  | some p => exact ⟨(p.2.1, p.2.2), p.1, fun k => Iff.rfl⟩
theorem HookOk.of_T {C0 : Cx} {g : FuncId} {R : SpcT} (hb : ∃ (fn : Func) (c : Code), C0.P.funcs[g]? = some fn ∧ fn.body = some c)
    (h : ∀ args S (D : Prop) r S', R args S = some (D, r, S') → D → CallOk C0 g args S r S' ∧ Wl S S') : HookOk C0 g (specT R) where
  one := specT_one R
  body := hb
  ok := fun args S r S' hw => by
    unfold specT at hw
    split at hw
    · rename_i D r1 S1 hR
      obtain ⟨hD, rfl, rfl⟩ := hw
      exact h _ _ _ _ _ hR hD
    · exact hw.elim
def noLoop : Code → Bool
  | .seq a b => noLoop a && noLoop b
  | .cond _ a b => noLoop a && noLoop b
  | .block _ a => noLoop a
  | .loop _ => false
  | _ => true
section
variable {C : WCx}
theorem wpC_ev (ho : C.Ones) (hm : ∀ c e, C.mask c e = e) (hcut : ∀ c, C.cut c = false) : ∀ (c : Code) (env : Env) (S : St) (k : Kont), noLoop c = true → wpC C c env S k → ∃ x e s, evC C.cx noSelf c env S = some (x, e, s) ∧ k x e s := by
  intro c
  induction c <;> intro env S k hn h
  case skip => exact ⟨_, _, _, rfl, h⟩
  case region id ops d =>
    cases d
    · exact wpOps_ok ho _ _ _ _ h
    · simp only [wpC] at h
      simp only [evC]
      split at h
      · rename_i hf
        rw [if_pos hf]
        obtain ⟨e, s, h1, h2⟩ := wpDraw_ok (sf := noSelf) ho _ _ _ _ _ _ h
        rw [h1]
        exact wpOps_ok ho _ _ _ _ h2
      · rename_i hf
        rw [if_neg (by rw [hf]; simp)]
        obtain ⟨e, s, h1, h2⟩ := wpDraw_ok (sf := noSelf) ho _ _ _ _ _ _ h
        rw [h1]
        exact ⟨_, _, _, rfl, h2⟩
  case seq a b iha ihb =>
    simp only [noLoop, Bool.and_eq_true] at hn
    obtain ⟨x, e, s, h1, h2⟩ := iha _ _ _ hn.1 h
    simp only [evC, h1]
    cases x with
    | normal =>
      simp only [hcut b, hm] at h2
      exact ihb _ _ _ hn.2 h2
    | _ => exact ⟨_, _, _, rfl, h2⟩
  case cond c a b iha ihb =>
    simp only [noLoop, Bool.and_eq_true] at hn
    simp only [wpC] at h
    simp only [evC]
    split at h
    · rename_i t ht
      rw [evalA_cx, ht]
      rcases cIf_elim h with ⟨rfl, h⟩ | ⟨rfl, h⟩
      · exact iha _ _ _ hn.1 h
      · exact ihb _ _ _ hn.2 h
    · exact h.elim
  case block id c ih =>
    obtain ⟨x, e, s, h1, h2⟩ := ih _ _ _ hn h
    simp only [evC, h1]
    cases x with
    | exit i =>
      rcases cIf_elim h2 with ⟨q, h2⟩ | ⟨q, h2⟩
      · exact ⟨_, _, _, if_pos (of_decide_eq_true q), h2⟩
      · exact ⟨_, _, _, if_neg (of_decide_eq_false q), h2⟩
    | _ => exact ⟨_, _, _, rfl, h2⟩
  case exit id => exact ⟨_, _, _, rfl, h⟩
  case ret => exact ⟨_, _, _, rfl, h⟩
  case loop c ih => exact absurd hn (by simp [noLoop])
  all_goals exact h.elim
end
/-- What a call leaves. -/
def FinT (C : Cx) (fn : Func) (S : St) (r : CR) (S' : St) : Kont := fun x e s => (x = .normal ∨ x = .ret) ∧ ∃ v, resultsA C fn e s = some v ∧ r = .ret (finish C S s v).1 ∧ S' = (finish C S s v).2
theorem call_of_T {B : Base} (hB : BaseOk B) {l : List (FuncId × Spc)} (hl : Cts B l) {g : FuncId} {fn : Func} {c : Code} (hfn : B.P.funcs[g]? = some fn) (hc : fn.body = some c) (hn : noLoop c = true) {args : List AV} {S S' : St} {r : CR}
    (h : wpC (B.wcx l) c (args ++ List.replicate (fn.ntmps - args.length) .bad) { S with wl := [] } (FinT (B.wcx l).cx fn S r S')) : CallOk B.c0 g args S r S' ∧ Wl S S' := by
  obtain ⟨x, e, s, h1, hx, v, h2, rfl, rfl⟩ := wpC_ev (wcx_ones hB hl) (fun c e => by unfold WCx.mask; cases firstId c <;> rfl) (fun c => by unfold WCx.cut; cases firstId c <;> rfl) c _ _ _ hn h
  have hcall : callF (B.wcx l).cx noSelf g args S = some (.ret (finish (B.wcx l).cx S s v).1, (finish (B.wcx l).cx S s v).2) := by
    unfold callF
    rw [show (B.wcx l).cx.P.funcs[g]? = some fn from hfn]
    simp only [hc, h1]
    rcases hx with rfl | rfl <;> simp only [h2]
  have hs : SelfW noSelf := ⟨fun _ _ _ _ _ h => (by cases h), fun _ _ _ _ _ _ h => (by cases h)⟩
  exact ⟨(callF_ok (wcx_ok hB hl) (wcx_w hB hl) (noSelf_ok _) hs hcall).2, callF_wl (wcx_w hB hl) hs hcall⟩
end Go.Ev
