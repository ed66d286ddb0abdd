/- Contracts of functions of the program and of the reference. -/
import Derived.Test.YtdpfgjljehajbaaGreatDoorK1
set_option linter.unusedVariables false
set_option linter.unusedSimpArgs false
/-! VTI -/
set_option maxRecDepth 100000
set_option linter.unusedVariables false
namespace Go.Proofs
open Go Go.Ev
def R163 : Spc := fun args => match args with
  | [.int .i64 z] => some (True, rB (decide (z < -720) || decide (z > 840)))
  | _ => none
def R204 : Spc := fun args => match args with
  | [.vs [.int .i64 z] 1 _, .fn (.func 163) [] []] => some (True, rI (if z < -720 ∨ z > 840 then 0 else -1))
  | _ => none
def R162 : Spc := fun args => match args with
  | [.vs [.int .i64 z] 1 _, .fn (.func 163) [] []] => some (True, rB (decide (z < -720) || decide (z > 840)))
  | _ => none
noncomputable def Tryz.X162 : WCx := Tryz.B.wcx [(204, R204)]
noncomputable def Tryz.X120 : WCx := Tryz.B.wcx [(162, R162)]
theorem v115 (n : Int) (Q : CR → Prop) : wpF Tryz.X0 115 [I n] Q =
  (cIf (decide (n ≥ (0 : Int))) (Q (CR.ret (Bo (decide (n ≤ (144001439 : Int)))))) (Q (CR.ret (Bo false)))) := by kernel_rfl
theorem v118 (n a b : Int) (Q : CR → Prop) : wpF Tryz.X0 118 [I n, I a, I b] Q =
  (cIf (decide (n ≥ a)) (Q (CR.ret (Bo (decide (n ≤ b))))) (Q (CR.ret (Bo false)))) := by kernel_rfl
theorem v121 (n : Int) (Q : CR → Prop) : wpF Tryz.X0 121 [I n] Q =
  (cIf (decide (n ≥ (-720 : Int))) (Q (CR.ret (Bo (decide (n ≤ (840 : Int)))))) (Q (CR.ret (Bo false)))) := by kernel_rfl
theorem v84 (n z : Int) (Q : CR → Prop) : wpF Tryz.X0 84 [I n, I z] Q =
  (Q (CR.ret (AV.tup [I (IntKind.i64.wrap (IntKind.i64.wrap ((IntKind.i64.wrap (IntKind.i64.wrap (n + z) + (1440 : Int))).tdiv (1440 : Int)) - (1 : Int))), I ((IntKind.i64.wrap (IntKind.i64.wrap (n + z) + (1440 : Int))).tmod (1440 : Int))]))) := by kernel_rfl
theorem v89 (n : Int) (Q : CR → Prop) : wpF Tryz.X0 89 [I n] Q =
  (cIf (decide (n.tmod (1440 : Int) < (0 : Int))) (Q (CR.ret (AV.tup [I (IntKind.i64.wrap (IntKind.i64.wrap (n.tdiv (1440 : Int)) - (1 : Int))), I (IntKind.i64.wrap (n.tmod (1440 : Int) + (1440 : Int)))]))) (Q (CR.ret (AV.tup [I (IntKind.i64.wrap (n.tdiv (1440 : Int))), I (n.tmod (1440 : Int))])))) := by kernel_rfl
theorem v163 (z : Int) (Q : CR → Prop) : wpF Tryz.X0 163 [I z] Q =
  (cIf (decide (z < (-720 : Int))) (Q (CR.ret (Bo true))) (Q (CR.ret (Bo (decide (z > (840 : Int))))))) := by kernel_rfl
theorem v162 (z : Int) (tk : Tok) (Q : CR → Prop) : wpF Tryz.X162 162 [.vs [I z] 1 tk, .fn (.func 163) [] []] Q =
  (True ∧ Q (CR.ret (Bo (decide ((if z < (-720 : Int) ∨ z > (840 : Int) then (0 : Int) else (-1 : Int)) ≥ (0 : Int)))))) := by kernel_rfl
theorem v120 (z : Int) (tk : Tok) (Q : CR → Prop) : wpF Tryz.X120 120 [.vs [I z] 1 tk] Q =
  (True ∧ Q (CR.ret (Bo !(decide (z < (-720 : Int)) || decide (z > (840 : Int)))))) := by kernel_rfl
end Go.Proofs
/-! TI -/
set_option maxRecDepth 100000
set_option linter.unusedVariables false
namespace Go.Proofs
open Go Go.Ev
theorem wrap_mid {n : Int} (h : -9000000000 ≤ n) (h2 : n ≤ 9000000000) : IntKind.i64.wrap n = n := by
  simp [IntKind.wrap, IntKind.signed, IntKind.bits]; omega
def R115 : Spc := fun args => match args with
  | [.int .i64 n] => some (True, rB (decide (0 ≤ n) && decide (n ≤ 144001439)))
  | _ => none
def R118 : Spc := fun args => match args with
  | [.int .i64 n, .int .i64 a, .int .i64 b] => some (True, rB (decide (a ≤ n) && decide (n ≤ b)))
  | _ => none
def R121 : Spc := fun args => match args with
  | [.int .i64 n] => some (True, rB (decide (-720 ≤ n) && decide (n ≤ 840)))
  | _ => none
def R120 : Spc := fun args => match args with
  | [.vs [.int .i64 n] 1 _] => some (True, rB (decide (-720 ≤ n) && decide (n ≤ 840)))
  | _ => none
def R89 : Spc := fun args => match args with
  | [.int .i64 n] => some (-1000000000 ≤ n ∧ n ≤ 1000000000, .ret (.tup [I (n / 1440), I (n % 1440)]))
  | _ => none
def R84 : Spc := fun args => match args with
  | [.int .i64 n, .int .i64 z] => some (0 ≤ n ∧ n ≤ 1000000000 ∧ -1440 ≤ z ∧ z ≤ 1440, .ret (.tup [I ((n + z) / 1440), I ((n + z) % 1440)]))
  | _ => none
theorem ct115 : Ct Tryz.B.c0 115 R115 := Ct.of_wp (lm := []) Tryz.bok (Cts.nil _) ⟨_, _, Tryz.func115, rfl⟩ fun args D r hR hD => by
  unfold R115 at hR
  split at hR <;> cases hR
  refine ⟨rfl, (v115 _ _).mpr ?_⟩
  repeat' (refine cIf_intro (fun h => ?_) (fun h => ?_))
  all_goals (apply rB_eq; simp at *; omega)
theorem ct118 : Ct Tryz.B.c0 118 R118 := Ct.of_wp (lm := []) Tryz.bok (Cts.nil _) ⟨_, _, Tryz.func118, rfl⟩ fun args D r hR hD => by
  unfold R118 at hR
  split at hR <;> cases hR
  refine ⟨rfl, (v118 _ _ _ _).mpr ?_⟩
  repeat' (refine cIf_intro (fun h => ?_) (fun h => ?_))
  all_goals (apply rB_eq; simp at *; omega)
theorem ct121 : Ct Tryz.B.c0 121 R121 := Ct.of_wp (lm := []) Tryz.bok (Cts.nil _) ⟨_, _, Tryz.func121, rfl⟩ fun args D r hR hD => by
  unfold R121 at hR
  split at hR <;> cases hR
  refine ⟨rfl, (v121 _ _).mpr ?_⟩
  repeat' (refine cIf_intro (fun h => ?_) (fun h => ?_))
  all_goals (apply rB_eq; simp at *; omega)
theorem ct89 : Ct Tryz.B.c0 89 R89 := Ct.of_wp (lm := []) Tryz.bok (Cts.nil _) ⟨_, _, Tryz.func89, rfl⟩ fun args D r hR hD => by
  unfold R89 at hR
  split at hR <;> cases hR
  rename_i n
  obtain ⟨h1, h2⟩ := hD
  refine ⟨rfl, (v89 _ _).mpr ?_⟩
  have e1 : n.tdiv 1440 = if 0 ≤ n ∨ n % 1440 = 0 then n / 1440 else n / 1440 + 1 := by
    rw [Int.tdiv_eq_ediv, show Int.sign 1440 = 1 from rfl]
    have hd : (1440 : Int) ∣ n ↔ n % 1440 = 0 := Int.dvd_iff_emod_eq_zero
    by_cases h : 0 ≤ n ∨ n % 1440 = 0
    · rw [if_pos h, if_pos (h.imp id hd.2)]; omega
    · rw [if_neg h, if_neg (fun q => h (q.imp id hd.1))]
  have e2 : n.tmod 1440 = n - 1440 * n.tdiv 1440 := by have := Int.tmod_add_mul_tdiv n 1440; omega
  have e3 : n = 1440 * (n / 1440) + n % 1440 := by omega
  refine cIf_intro (fun h => ?_) (fun h => ?_)
  · have h : n.tmod 1440 < 0 := of_decide_eq_true h
    have f1 : IntKind.i64.wrap (IntKind.i64.wrap (n.tdiv 1440) - 1) = n / 1440 := by
      rw [e2, e1] at h
      rw [e1]
      split at h
      · omega
      · rename_i hc
        rw [if_neg hc, wrap_mid (n := n / 1440 + 1) (by omega) (by omega), wrap_mid (by omega) (by omega)]; omega
    have f2 : IntKind.i64.wrap (n.tmod 1440 + 1440) = n % 1440 := by
      rw [e2, e1] at h ⊢
      split at h
      · omega
      · rename_i hc
        rw [if_neg hc, wrap_mid (by omega) (by omega)]; omega
    show CR.ret (AV.tup [I _, I _]) = CR.ret (AV.tup [I _, I _])
    rw [f1, f2]
  · have h : ¬ n.tmod 1440 < 0 := of_decide_eq_false h
    have f1 : IntKind.i64.wrap (n.tdiv 1440) = n / 1440 := by
      rw [e2, e1] at h
      rw [e1]
      split at h
      · rename_i hc
        rw [if_pos hc, wrap_mid (by omega) (by omega)]
      · omega
    have f2 : n.tmod 1440 = n % 1440 := by
      rw [e2, e1] at h ⊢
      split at h
      · rename_i hc
        rw [if_pos hc]; omega
      · omega
    show CR.ret (AV.tup [I _, I _]) = CR.ret (AV.tup [I _, I _])
    rw [f1, f2]
end Go.Proofs
/-! TI2 -/
set_option maxRecDepth 100000
set_option linter.unusedVariables false
namespace Go.Proofs
open Go Go.Ev
theorem split84a {n z : Int} (h1 : 0 ≤ n) (h2 : n ≤ 1000000000) (h3 : -1440 ≤ z) (h4 : z ≤ 1440) : IntKind.i64.wrap (IntKind.i64.wrap (n + z) + 1440) = n + z + 1440 := by
  rw [wrap_mid (n := n + z) (by omega) (by omega)]
  exact wrap_mid (by omega) (by omega)
theorem split84b {n z : Int} (h1 : 0 ≤ n) (h2 : n ≤ 1000000000) (h3 : -1440 ≤ z) (h4 : z ≤ 1440) : IntKind.i64.wrap (IntKind.i64.wrap ((n + z + 1440).tdiv 1440) - 1) = (n + z) / 1440 := by
  have e : (n + z + 1440).tdiv 1440 = (n + z + 1440) / 1440 := Int.tdiv_eq_ediv_of_nonneg (by omega)
  rw [e]
  generalize hq : (n + z + 1440) / 1440 = q
  have hq1 : 0 ≤ q := by omega
  have hq2 : q ≤ 1000000000 := by omega
  have hq3 : (n + z) / 1440 = q - 1 := by omega
  rw [hq3, wrap_mid (n := q) (by omega) (by omega), wrap_mid (n := q - 1) (by omega) (by omega)]
theorem split84c {n z : Int} (h1 : 0 ≤ n) (h3 : -1440 ≤ z) : (n + z + 1440).tmod 1440 = (n + z) % 1440 := by
  rw [Int.tmod_eq_emod_of_nonneg (by omega)]
  omega
theorem r84 {n z a b : Int} (h1 : 0 ≤ n) (h2 : n ≤ 1000000000) (h3 : -1440 ≤ z) (h4 : z ≤ 1440) (ha : a = IntKind.i64.wrap (IntKind.i64.wrap ((IntKind.i64.wrap (IntKind.i64.wrap (n + z) + (1440 : Int))).tdiv (1440 : Int)) - (1 : Int))) (hb : b = (IntKind.i64.wrap (IntKind.i64.wrap (n + z) + (1440 : Int))).tmod (1440 : Int)) : CR.ret (AV.tup [I a, I b]) = CR.ret (AV.tup [I ((n + z) / 1440), I ((n + z) % 1440)]) := by
  rw [split84a h1 h2 h3 h4] at ha hb
  rw [split84b h1 h2 h3 h4] at ha
  rw [split84c h1 h3] at hb
  rw [ha, hb]
theorem ct84 : Ct Tryz.B.c0 84 R84 := Ct.of_wp (lm := []) Tryz.bok (Cts.nil _) ⟨_, _, Tryz.func84, rfl⟩ fun args D r hR hD => by
  unfold R84 at hR
  split at hR
  rotate_left
  · exact absurd hR (by simp)
  rename_i n z
  have hh := Option.some.inj hR
  have hD' := congrArg Prod.fst hh
  have hr := congrArg Prod.snd hh
  dsimp only at hD' hr
  rw [← hD'] at hD
  obtain ⟨h1, h2, h3, h4⟩ := hD
  refine ⟨rfl, ?_⟩
  rw [← hr]
  rw [show scrubL 0 [AV.int IntKind.i64 n, AV.int IntKind.i64 z] = [I n, I z] from rfl]
  show wpF Tryz.X0 84 [I n, I z] _
  rw [v84]
  exact r84 h1 h2 h3 h4 rfl rfl
theorem ct163 : Ct Tryz.B.c0 163 R163 := Ct.of_wp (lm := []) Tryz.bok (Cts.nil _) ⟨_, _, Tryz.func163, rfl⟩ fun args D r hR hD => by
  unfold R163 at hR
  split at hR <;> cases hR
  refine ⟨rfl, (v163 _ _).mpr ?_⟩
  repeat' (refine cIf_intro (fun h => ?_) (fun h => ?_))
  all_goals (apply rB_eq; simp at *; omega)
theorem ct162 (h204 : Ct Tryz.B.c0 204 R204) : Ct Tryz.B.c0 162 R162 := Ct.of_wp (lm := []) Tryz.bok ((Cts.nil _).cons h204) ⟨_, _, Tryz.func162, rfl⟩ fun args D r hR hD => by
  unfold R162 at hR
  split at hR <;> cases hR
  refine ⟨rfl, (v162 _ _ _).mpr ⟨trivial, ?_⟩⟩
  apply rB_eq
  split <;> simp <;> omega
theorem ct120 (h162 : Ct Tryz.B.c0 162 R162) : Ct Tryz.B.c0 120 R120 := Ct.of_wp (lm := []) Tryz.bok ((Cts.nil _).cons h162) ⟨_, _, Tryz.func120, rfl⟩ fun args D r hR hD => by
  unfold R120 at hR
  split at hR <;> cases hR
  refine ⟨rfl, (v120 _ _ _).mpr ⟨trivial, ?_⟩⟩
  apply rB_eq
  simp
end Go.Proofs
/-! VTJ -/
set_option maxRecDepth 100000
set_option linter.unusedVariables false
namespace Go.Ev
def locV (m z : Int) : Int × Int × Int := if 0 ≤ m ∧ m ≤ 144001439 ∧ -720 ≤ z ∧ z ≤ 840 then ((m + z) / 1440, (m + z) % 1440, 0) else (0, 0, 1)
def minV (d o z : Int) : Int × Int := if -720 ≤ z ∧ z ≤ 840 ∧ 0 ≤ o ∧ o ≤ 1439 ∧ -1 ≤ d ∧ d ≤ 100001 ∧ 0 ≤ 1440 * d + o - z ∧ 1440 * d + o - z ≤ 144001439 then (1440 * d + o - z, 0) else (0, 1)
end Go.Ev
namespace Go.Proofs
open Go Go.Ev
def R49 : Spc := fun args => match args with
  | [.int .i64 m, .int .i64 z] => some (True, .ret (.tup [I (locV m z).1, I (locV m z).2.1, I (locV m z).2.2]))
  | _ => none
def R51 : Spc := fun args => match args with
  | [.int .i64 d, .int .i64 o, .int .i64 z] => some (True, .ret (.tup [I (minV d o z).1, I (minV d o z).2]))
  | _ => none
noncomputable def Tryz.X49 : WCx := Tryz.B.wcx [(115, R115), (120, R120), (89, R89)]
noncomputable def Tryz.X50 : WCx := Tryz.B.wcx [(118, R118), (121, R121), (84, R84)]
noncomputable def Tryz.X51 : WCx := Tryz.B.wcx [(115, R115), (120, R120)]
noncomputable def Tryz.X52 : WCx := Tryz.B.wcx [(118, R118), (121, R121)]
noncomputable def Tryz.X12 : WCx := Tryz.B.wcx [(49, R49), (50, R49), (51, R51), (52, R51), (26, R26)]
theorem v49 (m z : Int) (Q : CR → Prop) : wpF Tryz.X49 49 [I m, I z] Q =
  (True ∧ cIf (!(decide ((0 : Int) ≤ m) && decide (m ≤ (144001439 : Int)))) (Q (CR.ret (AV.tup [I (0 : Int), I (0 : Int), I (1 : Int)]))) (True ∧ cIf (!(decide ((-720 : Int) ≤ z) && decide (z ≤ (840 : Int)))) (Q (CR.ret (AV.tup [I (0 : Int), I (0 : Int), I (1 : Int)]))) (((-1000000000 : Int) ≤ IntKind.i64.wrap (m + z) ∧ IntKind.i64.wrap (m + z) ≤ (1000000000 : Int)) ∧ Q (CR.ret (AV.tup [I (IntKind.i64.wrap (m + z) / (1440 : Int)), I (IntKind.i64.wrap (m + z) % (1440 : Int)), I (0 : Int)]))))) := by kernel_rfl
theorem v50 (m z : Int) (Q : CR → Prop) : wpF Tryz.X50 50 [I m, I z] Q =
  (True ∧ True ∧ cIf (!(decide ((0 : Int) ≤ m) && decide (m ≤ (144001439 : Int)))) (Q (CR.ret (AV.tup [I (0 : Int), I (0 : Int), I (1 : Int)]))) (cIf (!(decide ((-720 : Int) ≤ z) && decide (z ≤ (840 : Int)))) (Q (CR.ret (AV.tup [I (0 : Int), I (0 : Int), I (1 : Int)]))) (((0 : Int) ≤ m ∧ m ≤ (1000000000 : Int) ∧ (-1440 : Int) ≤ z ∧ z ≤ (1440 : Int)) ∧ Q (CR.ret (AV.tup [I ((m + z) / (1440 : Int)), I ((m + z) % (1440 : Int)), I (0 : Int)]))))) := by kernel_rfl
theorem v51 (d o z : Int) (Q : CR → Prop) : wpF Tryz.X51 51 [I d, I o, I z] Q =
  (True ∧ cIf (!(decide ((-720 : Int) ≤ z) && decide (z ≤ (840 : Int)))) (Q (CR.ret (AV.tup [I (0 : Int), I (1 : Int)]))) (cIf (decide (o < (0 : Int))) (Q (CR.ret (AV.tup [I (0 : Int), I (1 : Int)]))) (cIf (decide (o ≥ (1440 : Int))) (Q (CR.ret (AV.tup [I (0 : Int), I (1 : Int)]))) (cIf (decide (d < (-1 : Int))) (Q (CR.ret (AV.tup [I (0 : Int), I (1 : Int)]))) (cIf (decide (d > (100001 : Int))) (Q (CR.ret (AV.tup [I (0 : Int), I (1 : Int)]))) (True ∧ cIf (!(decide ((0 : Int) ≤ IntKind.i64.wrap (IntKind.i64.wrap (IntKind.i64.wrap (d * (1440 : Int)) + o) - z)) && decide (IntKind.i64.wrap (IntKind.i64.wrap (IntKind.i64.wrap (d * (1440 : Int)) + o) - z) ≤ (144001439 : Int)))) (Q (CR.ret (AV.tup [I (0 : Int), I (1 : Int)]))) (Q (CR.ret (AV.tup [I (IntKind.i64.wrap (IntKind.i64.wrap (IntKind.i64.wrap (d * (1440 : Int)) + o) - z)), I (0 : Int)]))))))))) := by kernel_rfl
theorem v52 (d o z : Int) (Q : CR → Prop) : wpF Tryz.X52 52 [I d, I o, I z] Q =
  (True ∧ True ∧ True ∧ cIf (!(decide ((-1 : Int) ≤ d) && decide (d ≤ (100001 : Int)))) (Q (CR.ret (AV.tup [I (0 : Int), I (1 : Int)]))) (cIf (!(decide ((0 : Int) ≤ o) && decide (o ≤ (1439 : Int)))) (Q (CR.ret (AV.tup [I (0 : Int), I (1 : Int)]))) (cIf (!(decide ((-720 : Int) ≤ z) && decide (z ≤ (840 : Int)))) (Q (CR.ret (AV.tup [I (0 : Int), I (1 : Int)]))) (True ∧ cIf (!(decide ((0 : Int) ≤ IntKind.i64.wrap (IntKind.i64.wrap (IntKind.i64.wrap ((1440 : Int) * d) + o) - z)) && decide (IntKind.i64.wrap (IntKind.i64.wrap (IntKind.i64.wrap ((1440 : Int) * d) + o) - z) ≤ (144001439 : Int)))) (Q (CR.ret (AV.tup [I (0 : Int), I (1 : Int)]))) (Q (CR.ret (AV.tup [I (IntKind.i64.wrap (IntKind.i64.wrap (IntKind.i64.wrap ((1440 : Int) * d) + o) - z)), I (0 : Int)]))))))) := by kernel_rfl
theorem v12 (m d o z : Int) (Q : CR → Prop) : wpF Tryz.X12 12 [I m, I d, I o, I z] Q =
  (True ∧ True ∧ True ∧ True ∧ cIf ((locV m z).fst != (locV m z).fst) (Q (CR.ret (Bo false))) (cIf ((locV m z).snd.fst != (locV m z).snd.fst) (Q (CR.ret (Bo false))) (cIf ((locV m z).snd.snd != (locV m z).snd.snd) (Q (CR.ret (Bo false))) (cIf ((minV d o z).fst != (minV d o z).fst) (Q (CR.ret (Bo false))) (cIf ((minV d o z).snd != (minV d o z).snd) (Q (CR.ret (Bo false))) (cIf ((locV m z).snd.snd == (0 : Int)) (True ∧ cIf ((minV (locV m z).fst (locV m z).snd.fst z).snd != (0 : Int)) (Q (CR.ret (Bo false))) (cIf ((minV (locV m z).fst (locV m z).snd.fst z).fst != m) (Q (CR.ret (Bo false))) (cIf ((minV d o z).snd == (0 : Int)) (True ∧ cIf ((locV (minV d o z).fst z).snd.snd != (0 : Int)) (Q (CR.ret (Bo false))) (cIf ((locV (minV d o z).fst z).fst != d) (Q (CR.ret (Bo false))) (cIf ((locV (minV d o z).fst z).snd.fst != o) (Q (CR.ret (Bo false))) (True ∧ Q (CR.ret (Bo true)))))) (True ∧ Q (CR.ret (Bo true)))))) (cIf ((minV d o z).snd == (0 : Int)) (True ∧ cIf ((locV (minV d o z).fst z).snd.snd != (0 : Int)) (Q (CR.ret (Bo false))) (cIf ((locV (minV d o z).fst z).fst != d) (Q (CR.ret (Bo false))) (cIf ((locV (minV d o z).fst z).snd.fst != o) (Q (CR.ret (Bo false))) (True ∧ Q (CR.ret (Bo true)))))) (True ∧ Q (CR.ret (Bo true)))))))))) := by kernel_rfl
end Go.Proofs
/-! TJ -/
set_option maxRecDepth 100000
set_option linter.unusedVariables false
namespace Go.Ev
theorem locV_ok {m z : Int} (h : 0 ≤ m ∧ m ≤ 144001439 ∧ -720 ≤ z ∧ z ≤ 840) : locV m z = ((m + z) / 1440, (m + z) % 1440, 0) := if_pos h
theorem locV_no {m z : Int} (h : ¬ (0 ≤ m ∧ m ≤ 144001439 ∧ -720 ≤ z ∧ z ≤ 840)) : locV m z = (0, 0, 1) := if_neg h
theorem wrap3 {d o z : Int} (hz : -720 ≤ z ∧ z ≤ 840) (ho : 0 ≤ o ∧ o ≤ 1439) (hd : -1 ≤ d ∧ d ≤ 100001) : IntKind.i64.wrap (IntKind.i64.wrap (IntKind.i64.wrap (1440 * d) + o) - z) = 1440 * d + o - z := by
  rw [Go.Proofs.wrap_mid (n := 1440 * d) (by omega) (by omega), Go.Proofs.wrap_mid (n := 1440 * d + o) (by omega) (by omega), Go.Proofs.wrap_mid (by omega) (by omega)]
theorem wrap3' {d o z : Int} (hz : -720 ≤ z ∧ z ≤ 840) (ho : 0 ≤ o ∧ o ≤ 1439) (hd : -1 ≤ d ∧ d ≤ 100001) : IntKind.i64.wrap (IntKind.i64.wrap (IntKind.i64.wrap (d * 1440) + o) - z) = 1440 * d + o - z := by
  rw [Int.mul_comm]; exact wrap3 hz ho hd
theorem minV_no {d o z : Int} (h : ¬ (-720 ≤ z ∧ z ≤ 840 ∧ 0 ≤ o ∧ o ≤ 1439 ∧ -1 ≤ d ∧ d ≤ 100001 ∧ 0 ≤ 1440 * d + o - z ∧ 1440 * d + o - z ≤ 144001439)) : minV d o z = (0, 1) := if_neg h
theorem minV_ok {d o z : Int} (h : -720 ≤ z ∧ z ≤ 840 ∧ 0 ≤ o ∧ o ≤ 1439 ∧ -1 ≤ d ∧ d ≤ 100001 ∧ 0 ≤ 1440 * d + o - z ∧ 1440 * d + o - z ≤ 144001439) : minV d o z = (1440 * d + o - z, 0) := if_pos h
/-! Both ways. -/
theorem loc_min {m z : Int} (h : (locV m z).2.2 = 0) : minV (locV m z).1 (locV m z).2.1 z = (m, 0) := by
  by_cases hc : 0 ≤ m ∧ m ≤ 144001439 ∧ -720 ≤ z ∧ z ≤ 840
  · rw [locV_ok hc]
    obtain ⟨h1, h2, h3, h4⟩ := hc
    dsimp only
    rw [minV_ok (by omega)]
    congr 1
    omega
  · rw [locV_no hc] at h
    simp at h
theorem min_loc {d o z : Int} (h : (minV d o z).2 = 0) : locV (minV d o z).1 z = (d, o, 0) := by
  by_cases hc : -720 ≤ z ∧ z ≤ 840 ∧ 0 ≤ o ∧ o ≤ 1439 ∧ -1 ≤ d ∧ d ≤ 100001 ∧ 0 ≤ 1440 * d + o - z ∧ 1440 * d + o - z ≤ 144001439
  · rw [minV_ok hc]
    obtain ⟨h1, h2, h3, h4, h5, h6, h7, h8⟩ := hc
    dsimp only
    rw [locV_ok (by omega)]
    have e1 : (1440 * d + o - z + z) / 1440 = d := by omega
    have e2 : (1440 * d + o - z + z) % 1440 = o := by omega
    rw [e1, e2]
  · rw [minV_no hc] at h
    simp at h
end Go.Ev
namespace Go.Proofs
open Go Go.Ev
theorem ct49 (h120 : Ct Tryz.B.c0 120 R120) : Ct Tryz.B.c0 49 R49 := Ct.of_wp (lm := []) Tryz.bok ((((Cts.nil _).cons ct89).cons h120).cons ct115) ⟨_, _, Tryz.func49, rfl⟩ fun args D r hR hD => by
  unfold R49 at hR
  split at hR <;> cases hR
  rename_i m z
  refine ⟨rfl, ?_⟩
  rw [show scrubL 0 [AV.int IntKind.i64 m, AV.int IntKind.i64 z] = [I m, I z] from rfl]
  refine (v49 _ _ _).mpr ⟨trivial, cIf_intro (fun h => ?_) (fun h => ⟨trivial, cIf_intro (fun h2 => ?_) (fun h2 => ?_)⟩)⟩
  · simp at h
    rw [locV_no (by omega)]
  · simp at h h2
    rw [locV_no (by omega)]
  · simp at h h2
    rw [locV_ok (by omega), wrap_mid (n := m + z) (by omega) (by omega)]
    exact ⟨⟨by omega, by omega⟩, rfl⟩
theorem ct50 : Ct Tryz.B.c0 50 R49 := Ct.of_wp (lm := []) Tryz.bok ((((Cts.nil _).cons ct84).cons ct121).cons ct118) ⟨_, _, Tryz.func50, rfl⟩ fun args D r hR hD => by
  unfold R49 at hR
  split at hR <;> cases hR
  rename_i m z
  refine ⟨rfl, ?_⟩
  rw [show scrubL 0 [AV.int IntKind.i64 m, AV.int IntKind.i64 z] = [I m, I z] from rfl]
  refine (v50 _ _ _).mpr ⟨trivial, trivial, cIf_intro (fun h => ?_) (fun h => cIf_intro (fun h2 => ?_) (fun h2 => ?_))⟩
  · simp at h
    rw [locV_no (by omega)]
  · simp at h h2
    rw [locV_no (by omega)]
  · simp at h h2
    rw [locV_ok (by omega)]
    exact ⟨⟨by omega, by omega, by omega, by omega⟩, rfl⟩
theorem ct51 (h120 : Ct Tryz.B.c0 120 R120) : Ct Tryz.B.c0 51 R51 := Ct.of_wp (lm := []) Tryz.bok (((Cts.nil _).cons h120).cons ct115) ⟨_, _, Tryz.func51, rfl⟩ fun args D r hR hD => by
  unfold R51 at hR
  split at hR <;> cases hR
  rename_i d o z
  refine ⟨rfl, ?_⟩
  rw [show scrubL 0 [AV.int IntKind.i64 d, AV.int IntKind.i64 o, AV.int IntKind.i64 z] = [I d, I o, I z] from rfl]
  refine (v51 _ _ _ _).mpr ⟨trivial, cIf_intro (fun h => ?_) (fun h => cIf_intro (fun h2 => ?_) (fun h2 => cIf_intro (fun h3 => ?_) (fun h3 => cIf_intro (fun h4 => ?_) (fun h4 => cIf_intro (fun h5 => ?_) (fun h5 => ⟨trivial, cIf_intro (fun h6 => ?_) (fun h6 => ?_)⟩)))))⟩
  · simp at h
    rw [minV_no (by omega)]
  · simp at h h2
    rw [minV_no (by omega)]
  · simp at h h2 h3
    rw [minV_no (by omega)]
  · simp at h h2 h3 h4
    rw [minV_no (by omega)]
  · simp at h h2 h3 h4 h5
    rw [minV_no (by omega)]
  · simp at h h2 h3 h4 h5
    rw [wrap3' (by omega) (by omega) (by omega)] at h6
    simp at h6
    rw [minV_no (by omega)]
  · simp at h h2 h3 h4 h5
    rw [wrap3' (by omega) (by omega) (by omega)] at h6 ⊢
    simp at h6
    rw [minV_ok (by omega)]
theorem ct52 : Ct Tryz.B.c0 52 R51 := Ct.of_wp (lm := []) Tryz.bok (((Cts.nil _).cons ct121).cons ct118) ⟨_, _, Tryz.func52, rfl⟩ fun args D r hR hD => by
  unfold R51 at hR
  split at hR <;> cases hR
  rename_i d o z
  refine ⟨rfl, ?_⟩
  rw [show scrubL 0 [AV.int IntKind.i64 d, AV.int IntKind.i64 o, AV.int IntKind.i64 z] = [I d, I o, I z] from rfl]
  refine (v52 _ _ _ _).mpr ⟨trivial, trivial, trivial, cIf_intro (fun h => ?_) (fun h => cIf_intro (fun h2 => ?_) (fun h2 => cIf_intro (fun h3 => ?_) (fun h3 => ⟨trivial, cIf_intro (fun h6 => ?_) (fun h6 => ?_)⟩)))⟩
  · simp at h
    rw [minV_no (by omega)]
  · simp at h h2
    rw [minV_no (by omega)]
  · simp at h h2 h3
    rw [minV_no (by omega)]
  · simp at h h2 h3
    rw [wrap3 (by omega) (by omega) (by omega)] at h6
    simp at h6
    rw [minV_no (by omega)]
  · simp at h h2 h3
    rw [wrap3 (by omega) (by omega) (by omega)] at h6 ⊢
    simp at h6
    rw [minV_ok (by omega)]
def R12 : Spc := fun args => match args with
  | [.int .i64 _, .int .i64 _, .int .i64 _, .int .i64 _] => some (True, rB true)
  | _ => none
theorem ct12a (h120 : Ct Tryz.B.c0 120 R120) : Ct Tryz.B.c0 12 R12 := Ct.of_wp (lm := []) Tryz.bok ((((((Cts.nil _).cons ct26).cons ct52).cons (ct51 h120)).cons ct50).cons (ct49 h120)) ⟨_, _, Tryz.func12, rfl⟩ fun args D r hR hD => by
  unfold R12 at hR
  split at hR <;> cases hR
  rename_i m d o z
  refine ⟨rfl, ?_⟩
  show wpF Tryz.X12 12 [I m, I d, I o, I z] _
  refine (v12 _ _ _ _ _).mpr ?_
  refine ⟨trivial, trivial, trivial, trivial, cIf_neg (by simp) (cIf_neg (by simp) (cIf_neg (by simp) (cIf_neg (by simp) (cIf_neg (by simp) ?_))))⟩
  have tail : cIf ((minV d o z).snd == (0 : Int)) (True ∧ cIf ((locV (minV d o z).fst z).snd.snd != (0 : Int)) (CR.ret (Bo false) = rB true) (cIf ((locV (minV d o z).fst z).fst != d) (CR.ret (Bo false) = rB true) (cIf ((locV (minV d o z).fst z).snd.fst != o) (CR.ret (Bo false) = rB true) (True ∧ CR.ret (Bo true) = rB true)))) (True ∧ CR.ret (Bo true) = rB true) := by
    refine cIf_intro (fun h => ?_) (fun h => ⟨trivial, rfl⟩)
    rw [min_loc (by simpa using h)]
    exact ⟨trivial, cIf_neg (by simp) (cIf_neg (by simp) (cIf_neg (by simp) ⟨trivial, rfl⟩))⟩
  refine cIf_intro (fun h => ?_) (fun h => tail)
  rw [loc_min (by simpa using h)]
  exact ⟨trivial, cIf_neg (by simp) (cIf_neg (by simp) tail)⟩
end Go.Proofs
/-! VTK -/
set_option maxRecDepth 100000
set_option linter.unusedVariables false
namespace Go.Proofs
open Go Go.Ev
def lm204b : List (Nat × List Nat) := [(2, [0, 1, 7, 8]), (7, [])]
noncomputable def Tryz.X204b : WCx := Tryz.B.wcx [(163, R163)] lm204b [] [] []
theorem v204b (z : Int) (tk : Tok) (Q : CR → Prop) : wpF Tryz.X204b 204 [.vs [I z] 1 tk, .fn (.func 163) [] []] Q =
  (WLoop Tryz.X204b (cd Tryz.X204b.P 204 [1, 0, 1, 0, 0]) ([AV.vs [I z] 1 tk, AV.fn (Fn.func 163) [] [], X, X, X, X, X, I (1 : Int), I (0 : Int)] ++ List.replicate 10 X) (St.mk [] [] []) (kBlock 0 (kSeq Tryz.X204b (cd Tryz.X204b.P 204 [1, 1]) (kRet Tryz.X204b 204 Q)))) := by kernel_rfl
theorem v204bl (z : Int) (tk : Tok) (i : Nat) (Q : CR → Prop) : wpC Tryz.X204b (cd PP 204 [1, 0, 1, 0, 0]) ([.vs [I z] 1 tk, .fn (.func 163) [] [], X, X, X, X, X, I 1, I i] ++ List.replicate 10 X) ⟨[], [], []⟩ (kLoop Tryz.X204b (cd PP 204 [1, 0, 1, 0, 0]) (kBlock 0 (kSeq Tryz.X204b (cd PP 204 [1, 1]) (kRet Tryz.X204b 204 Q)))) =
  (cIf (decide ((↑i : Int) < (1 : Int))) (cIf (decide (i < 1)) (cIf (decide (0 < (List.drop (i * 1) [I z]).length)) (cIf (likeOk (AV.ofVal (Value.int IntKind.i64 (0 : Int))) ((List.drop (i * 1) [I z]).getD 0 X)) (True ∧ cIf (decide (cI (List.drop (i * 1) [I z]) 0 < (-720 : Int)) || decide (cI (List.drop (i * 1) [I z]) 0 > (840 : Int))) (Q (CR.ret (I (↑i : Int)))) (WLoop Tryz.X204b (cd PP 204 [1, 0, 1, 0, 0]) ([AV.vs [I z] 1 tk, AV.fn (Fn.func 163) [] [], X, X, X, X, X, I (1 : Int), I (IntKind.i64.wrap ((↑i : Int) + (1 : Int)))] ++ List.replicate 10 X) (St.mk [] [] []) (kBlock 0 (kSeq Tryz.X204b (cd PP 204 [1, 1]) (kRet Tryz.X204b 204 Q))))) False) False) False) (Q (CR.ret (I (-1 : Int))))) := by kernel_rfl
end Go.Proofs
/-! TK -/
set_option maxRecDepth 100000
set_option linter.unusedVariables false
namespace Go.Proofs
open Go Go.Ev
theorem ct204 : Ct Tryz.B.c0 204 R204 := Ct.of_wp (lm := lm204b) Tryz.bok ((Cts.nil _).cons ct163) ⟨_, _, Tryz.func204, rfl⟩ fun args D r hR hD => by
  unfold R204 at hR
  split at hR <;> cases hR
  rename_i z tk
  refine ⟨rfl, ?_⟩
  rw [show scrubL 0 [AV.vs [AV.int IntKind.i64 z] 1 tk, AV.fn (Fn.func 163) [] []] = [.vs [I z] 1 (tk.scrub 0), .fn (.func 163) [] []] from rfl]
  refine (v204b z _ _).mpr ?_
  refine WLoop_step Tryz.bok ((Cts.nil _).cons ct163) ((v204bl z _ 0 _).mpr ?_)
  refine cIf_pos (by simp) (cIf_pos (by simp) (cIf_pos (by simp) (cIf_pos rfl ⟨trivial, ?_⟩)))
  have e : cI (List.drop (0 * 1) [I z]) 0 = z := rfl
  rw [e]
  refine cIf_intro (fun h => ?_) (fun h => ?_)
  · have h : z < -720 ∨ z > 840 := by simpa using h
    rw [if_pos h]
    rfl
  · have h : ¬ (z < -720 ∨ z > 840) := by simp at h; omega
    rw [if_neg h]
    refine WLoop_step Tryz.bok ((Cts.nil _).cons ct163) ((v204bl z _ 1 _).mpr ?_)
    exact cIf_neg (by simp) rfl
theorem ct162' : Ct Tryz.B.c0 162 R162 := ct162 ct204
theorem ct120' : Ct Tryz.B.c0 120 R120 := ct120 ct162'
theorem ct12 : Ct Tryz.B.c0 12 R12 := ct12a ct120'
end Go.Proofs
