/- Contracts of functions of the program and of the reference. -/
import Derived.Test.YtdpfgjljehajbaaGreatDoorE5
import Derived.Test.YtdpfgjljehajbaaGreatDoorHk
import Derived.Test.YtdpfgjljehajbaaGreatDoorAlZ
set_option linter.unusedVariables false
set_option linter.unusedSimpArgs false
/-! TB -/
set_option linter.unusedVariables false
set_option maxRecDepth 100000
namespace Go.Ev
abbrev I (n : Int) : AV := .int .i64 n
abbrev Bo (b : Bool) : AV := .bool b
abbrev X : AV := .bad
abbrev rI (n : Int) : CR := .ret (.int .i64 n)
abbrev rB (b : Bool) : CR := .ret (.bool b)
end Go.Ev
namespace Go.Proofs
open Go Go.Ev
noncomputable def Tryz.B : Base := { P := Tryz.prog, gt := Tryz.gt, eqt := [29, 46], nat := natOf 222 244 218, hw := fun _ => none }
theorem Tryz.gtpB : GtPlain Tryz.B.c0 := by
  intro g l h
  simp only [Tryz.B, Base.c0, Tryz.gt] at h
  split at h <;> cases h <;> exact ⟨by kernel_rfl, by kernel_rfl⟩
theorem Tryz.bok : BaseOk Tryz.B where
  eqt := fun t h => by
    simp only [Tryz.B, List.contains_cons, List.contains_nil, Bool.or_false, Bool.or_eq_true, beq_iff_eq] at h
    rcases h with rfl | rfl <;> kernel_rfl
  codes := Tryz.c0ok.codes
  nat := Tryz.c0ok.nat
  mixed := Tryz.c0ok.mixed
  names := Tryz.c0ok.names
  gtp := Tryz.gtpB
  hw := fun g W h => by cases h
end Go.Proofs
/-! VGA -/
set_option maxRecDepth 100000
set_option linter.unusedVariables false
namespace Go.Proofs
open Go Go.Ev
def R26 : Spc := fun args => match args with
  | [] => some (True, rB true)
  | _ => none
noncomputable abbrev PP := Tryz.prog
noncomputable def Tryz.X0 : WCx := Tryz.B.wcx []
def lm36 : List (Nat × List Nat) := [(3, [0, 1])]
noncomputable def Tryz.X36 : WCx := Tryz.B.wcx [] lm36 [] [3]
def gunsV (c v : Int) (m : Bool) : Int := if c < 1 then 0 else if c > 4 then 0 else if m then 0 else if v = 1 then (if c = 1 then 21 else if c = 2 then 21 else if c = 3 then 19 else 15) else (if c = 1 then 21 else if c = 2 then 19 else if c = 3 then 17 else 13)
def R36 : Spc := fun args => match args with
  | [.int .i64 c, .int .i64 v, .bool m] => some (True, rI (gunsV c v m))
  | _ => none
def R6 : Spc := fun args => match args with
  | [.int .i64 _, .int .i64 _, .bool _] => some (True, rB true)
  | _ => none
noncomputable def l3g : List (FuncId × Spc) := [(26, R26), (36, R36), (37, R36)]
noncomputable def Tryz.X6 : WCx := Tryz.B.wcx l3g
theorem v36 (c v : Int) (m : Bool) (Q : CR → Prop) : wpF Tryz.X36 36 [I c, I v, Bo m] Q =
  (cIf (decide (c < (1 : Int))) (Q (CR.ret (I (0 : Int)))) (cIf (decide (c ≥ (5 : Int))) (Q (CR.ret (I (0 : Int)))) (cIf m (Q (CR.ret (I (0 : Int)))) (WCut Tryz.X36 (cd Tryz.X36.P 36 [1, 1]) ([I c, I v] ++ List.replicate 24 X) (St.mk [] [] []) (kRet Tryz.X36 36 Q))))) := by kernel_rfl
theorem v37 (c v : Int) (m : Bool) (Q : CR → Prop) : wpF Tryz.X0 37 [I c, I v, Bo m] Q =
  (cIf (decide (c < (1 : Int))) (Q (CR.ret (I (0 : Int)))) (cIf (decide (c > (4 : Int))) (Q (CR.ret (I (0 : Int)))) (cIf m (Q (CR.ret (I (0 : Int)))) (cIf (decide (c < (4 : Int))) (cIf (v == (1 : Int)) (Q (CR.ret (AV.int IntKind.i64 (if (21 : Int) < IntKind.i64.wrap (IntKind.i64.wrap ((23 : Int) - IntKind.i64.wrap ((2 : Int) * c)) + (2 : Int)) then (21 : Int) else IntKind.i64.wrap (IntKind.i64.wrap ((23 : Int) - IntKind.i64.wrap ((2 : Int) * c)) + (2 : Int)))))) (Q (CR.ret (I (IntKind.i64.wrap ((23 : Int) - IntKind.i64.wrap ((2 : Int) * c))))))) (cIf (v == (1 : Int)) (Q (CR.ret (I (15 : Int)))) (Q (CR.ret (I (13 : Int))))))))) := by kernel_rfl
theorem v36k1 (v : Int) (Q : CR → Prop) : wpC Tryz.X36 (cd PP 36 [1, 1]) ([I 1, I v] ++ List.replicate 24 X) ⟨[], [], []⟩ (kRet Tryz.X36 36 Q) =
  (cIf (v == (1 : Int)) (Q (CR.ret (I (21 : Int)))) (Q (CR.ret (I (21 : Int))))) := by kernel_rfl
theorem v36k2 (v : Int) (Q : CR → Prop) : wpC Tryz.X36 (cd PP 36 [1, 1]) ([I 2, I v] ++ List.replicate 24 X) ⟨[], [], []⟩ (kRet Tryz.X36 36 Q) =
  (cIf (v == (1 : Int)) (Q (CR.ret (I (21 : Int)))) (Q (CR.ret (I (19 : Int))))) := by kernel_rfl
theorem v36k3 (v : Int) (Q : CR → Prop) : wpC Tryz.X36 (cd PP 36 [1, 1]) ([I 3, I v] ++ List.replicate 24 X) ⟨[], [], []⟩ (kRet Tryz.X36 36 Q) =
  (cIf (v == (1 : Int)) (Q (CR.ret (I (19 : Int)))) (Q (CR.ret (I (17 : Int))))) := by kernel_rfl
theorem v36k4 (v : Int) (Q : CR → Prop) : wpC Tryz.X36 (cd PP 36 [1, 1]) ([I 4, I v] ++ List.replicate 24 X) ⟨[], [], []⟩ (kRet Tryz.X36 36 Q) =
  (cIf (v == (1 : Int)) (Q (CR.ret (I (15 : Int)))) (Q (CR.ret (I (13 : Int))))) := by kernel_rfl
theorem v6 (c v : Int) (m : Bool) (Q : CR → Prop) : wpF Tryz.X6 6 [I c, I v, Bo m] Q =
  (True ∧ True ∧ True ∧ Q (CR.ret (Bo (gunsV c v m == gunsV c v m)))) := by kernel_rfl
end Go.Proofs
/-! GA -/
set_option maxRecDepth 100000
set_option linter.unusedVariables false
namespace Go.Ev
theorem rI_eq {a b : Int} (h : a = b) : rI a = rI b := by rw [h]
end Go.Ev
namespace Go.Proofs
open Go Go.Ev
theorem ct36 : Ct Tryz.B.c0 36 R36 := Ct.of_wp (lm := lm36) (ct := [3]) Tryz.bok (Cts.nil _) ⟨_, _, Tryz.func36, rfl⟩ fun args D r hR hD => by
  unfold R36 at hR
  split at hR <;> cases hR
  rename_i c v m
  refine ⟨rfl, (v36 _ _ _ _).mpr ?_⟩
  refine cIf_intro (fun h => ?_) (fun h => cIf_intro (fun h1 => ?_) (fun h1 => cIf_intro (fun h2 => ?_) (fun h2 => ?_)))
  · apply rI_eq; simp [gunsV] at *; omega
  · apply rI_eq; simp [gunsV] at *; omega
  · apply rI_eq; simp [gunsV, h2] at *
  · refine WCut_of (C := Tryz.X36) (wcx_ones Tryz.bok (Cts.nil _)) (wcx_ok Tryz.bok (Cts.nil _)) ?_
    have h : c = 1 ∨ c = 2 ∨ c = 3 ∨ c = 4 := by simp at h h1; omega
    have hm : m = false := by simpa using h2
    subst hm
    rcases h with rfl | rfl | rfl | rfl
    · rw [show Tryz.X36.P = PP from rfl]; refine (v36k1 _ _).mpr ?_
      repeat' (refine cIf_intro (fun h => ?_) (fun h => ?_))
      all_goals (apply rI_eq; simp [gunsV] at *; try simp [h])
    · rw [show Tryz.X36.P = PP from rfl]; refine (v36k2 _ _).mpr ?_
      repeat' (refine cIf_intro (fun h => ?_) (fun h => ?_))
      all_goals (apply rI_eq; simp [gunsV] at *; try simp [h])
    · rw [show Tryz.X36.P = PP from rfl]; refine (v36k3 _ _).mpr ?_
      repeat' (refine cIf_intro (fun h => ?_) (fun h => ?_))
      all_goals (apply rI_eq; simp [gunsV] at *; try simp [h])
    · rw [show Tryz.X36.P = PP from rfl]; refine (v36k4 _ _).mpr ?_
      repeat' (refine cIf_intro (fun h => ?_) (fun h => ?_))
      all_goals (apply rI_eq; simp [gunsV] at *; try simp [h])
theorem ct37 : Ct Tryz.B.c0 37 R36 := Ct.of_wp (lm := []) Tryz.bok (Cts.nil _) ⟨_, _, Tryz.func37, rfl⟩ fun args D r hR hD => by
  unfold R36 at hR
  split at hR <;> cases hR
  rename_i c v m
  refine ⟨rfl, (v37 _ _ _ _).mpr ?_⟩
  refine cIf_intro (fun h => ?_) (fun h => cIf_intro (fun h1 => ?_) (fun h1 => cIf_intro (fun h2 => ?_) (fun h2 => ?_)))
  · apply rI_eq; simp [gunsV] at *; omega
  · apply rI_eq; simp [gunsV] at *; omega
  · apply rI_eq; simp [gunsV, h2] at *
  · have h : c = 1 ∨ c = 2 ∨ c = 3 ∨ c = 4 := by simp at h h1; omega
    have hm : m = false := by simpa using h2
    subst hm
    rcases h with rfl | rfl | rfl | rfl <;> (repeat' (refine cIf_intro (fun h => ?_) (fun h => ?_)))
    all_goals (apply rI_eq; revert h; clear h1 h2; intros; first | (simp_all [gunsV]; done) | (simp_all [gunsV]; decide) | skip)
theorem ct26 : Ct Tryz.B.c0 26 R26 where
  body := ⟨_, _, Tryz.func26, rfl⟩
  ok := fun args D r hR hD => by
    unfold R26 at hR
    split at hR <;> cases hR
    exact ⟨rfl, fun G w us h1 h2 h3 => Tryz.aliveOk G w us h1 h2 h3⟩
theorem ct6 : Ct Tryz.B.c0 6 R6 := Ct.of_wp (lm := []) Tryz.bok (((Cts.nil _).cons ct37).cons ct36 |>.cons ct26) ⟨_, _, Tryz.func6, rfl⟩ fun args D r hR hD => by
  unfold R6 at hR
  split at hR <;> cases hR
  rename_i c v m
  refine ⟨rfl, ?_⟩
  show wpF Tryz.X6 6 [I c, I v, Bo m] _
  rw [v6]
  simp
end Go.Proofs
